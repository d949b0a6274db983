/- A part of the proof of the seat's rows, said of the kit's own model: the codec's test: nothing spare is filled. Conditions: as each theorem says. -/
import Derived.Test.YthhhklmdceieaaaCd6
namespace Go.Ab
open Go Go.Proofs
set_option linter.unusedVariables false
set_option linter.unusedSimpArgs false
set_option maxRecDepth 100000
theorem q_mid {P : Program} {Q : Exit → St → Prop} {s : St} {x y : Code} (s0 : St) (hx : AW P x (Th (fun s' => Sub s' s0) Q) s) (hy : AW P y Q s0) : AW P (.seq x y) Q s :=
  q_seq (hx.mono fun e s k => ⟨by
    have := k.out
    cases e with
    | normal => exact hy.weak this
    | _ => exact this⟩)
theorem e57 : elemT Try.prog 57 = some 30 := by kernel_rfl
theorem s30 : sizeT Try.prog 30 = some 1 := by kernel_rfl
theorem s34 : sizeT Try.prog 34 = some 6 := by kernel_rfl
def Wat.av (w : Wat) : List AV := [.row 1 (byts w.key), .row 1 (byts w.en), pi w.start, pb w.noP, pb w.noD, pb w.prev]
def z34l : List AV := [.v (.slice none 0 0), .v (.slice none 0 0), pi 0, pb false, pb false, pb false]
theorem z34 : zeroT Try.prog 34 = some z34l := by kernel_rfl
def Opr.ok (o : Opr) : Bool := onlyB o.kind o.q o.w o.e
def idB (k : Int) : Bool := k == 6 || (k == 7 || (k == 8 || (k == 9 || (k == 12 || k == 13))))
def lens (r : Req) : Bool := IntKind.i64.wrap (IntKind.i64.wrap (((r.ifs.map Tst.av).length : Int) + ((r.thn.map Opr.av).length : Int)) + ((r.els.map Opr.av).length : Int)) == 0
def noWa (w : Wat) : Bool := (IntKind.i64.wrap (((byts w.key).length : Int) + ((byts w.en).length : Int)) == 0) && (w.start == 0) && !w.noP && !w.noD && !w.prev
def restB (r : Req) : Bool := onlyB r.kind r.q r.w r.e && (r.kind == 4 || lens r) && (r.kind == 5 || r.rev == 0) && (idB r.kind || r.id == 0) && (r.kind == 6 || r.ttl == 0) && (r.kind == 11 || noWa r.wa)
def spareB (r : Req) : Bool := r.thn.all Opr.ok && r.els.all Opr.ok && restB r
theorem cls (k : Int) : ((k == 4) = true ∧ (k == 5) = false ∧ idB k = false ∧ (k == 6) = false ∧ (k == 11) = false) ∨ ((k == 4) = false ∧ (k == 5) = true ∧ idB k = false ∧ (k == 6) = false ∧ (k == 11) = false) ∨ ((k == 4) = false ∧ (k == 5) = false ∧ idB k = true ∧ (k == 6) = true ∧ (k == 11) = false) ∨
    ((k == 4) = false ∧ (k == 5) = false ∧ idB k = true ∧ (k == 6) = false ∧ (k == 11) = false) ∨ ((k == 4) = false ∧ (k == 5) = false ∧ idB k = false ∧ (k == 6) = false ∧ (k == 11) = true) ∨ ((k == 4) = false ∧ (k == 5) = false ∧ idB k = false ∧ (k == 6) = false ∧ (k == 11) = false) := by
  unfold idB
  simp only [beq_iff_eq, beq_eq_false_iff_ne, Bool.or_eq_true, Bool.or_eq_false_iff]
  omega
set_option maxHeartbeats 4000000 in
theorem spare_spec (σ : Sg) (r : Req) (h2 : r.thn.length ≤ 300) (h3 : r.els.length ≤ 300) : ACalls Try.prog 19 [.agg r.av] σ (fun x σ' => x = pb (spareB r) ∧ σ' = σ) := by
  refine q_body Try.func19 rfl (by kernel_rfl) Try.ntmps19 (Nat.le_of_ble_eq_true rfl) ?_
  repeat (first | (refine q_tn ?_) | (refine q_nil ?_) | (refine q_seq ?_) | (refine q_reg [] ?_) | (refine q_load (by rfl) (by rfl) (by rfl) (by rfl) (upd_same _ _ _) (by rfl) ?_) | (refine q_val (by rfl) (by rfl) (by rfl) (by rfl) ?_) | (refine q_blk ?_) | (refine q_skip ?_) | (refine q_ct (by rfl) ?_) | (refine q_cf (by rfl) ?_) | (refine q_not (by rfl) (by rfl) ?_) | (refine q_bn ?_) | (refine q_be ?_) | (refine q_exit ?_) | (refine q_te ?_) | (refine q_ret ?_) | (refine q_tr ?_) | (refine q_br ?_))
  refine q_w (by rfl) (by rfl) (by rfl) (by rfl) ?_
  refine AO.box (cs := r.av) rfl rfl ?_
  intro c hc hcx
  clear hcx
  repeat (first | (refine q_tn ?_) | (refine q_nil ?_) | (refine q_seq ?_) | (refine q_reg [] ?_) | (refine q_load (by rfl) (by rfl) (by rfl) (by rfl) (upd_same _ _ _) (by rfl) ?_) | (refine q_val (by rfl) (by rfl) (by rfl) (by rfl) ?_) | (refine q_blk ?_) | (refine q_skip ?_) | (refine q_ct (by rfl) ?_) | (refine q_cf (by rfl) ?_) | (refine q_not (by rfl) (by rfl) ?_) | (refine q_bn ?_) | (refine q_be ?_) | (refine q_exit ?_) | (refine q_te ?_) | (refine q_ret ?_) | (refine q_tr ?_) | (refine q_br ?_))
  obtain ⟨E, hE⟩ : ∃ E : List (List AV), E = [[.row 20 (r.thn.map Opr.av)], [.row 20 (r.els.map Opr.av)]] := ⟨_, rfl⟩
  have rows : ∀ i, i < 2 → ∃ Lr : List Opr, (i = 0 → Lr = r.thn) ∧ (i = 1 → Lr = r.els) ∧ Lr.length ≤ 300 ∧ E[i]? = some [.row 20 (Lr.map Opr.av)] := fun i hi => by
    rcases (by omega : i = 0 ∨ i = 1) with rfl | rfl
    · exact ⟨r.thn, fun _ => rfl, fun e => by omega, h2, by rw [hE]; rfl⟩
    · exact ⟨r.els, fun e => by omega, fun _ => rfl, h3, by rw [hE]; rfl⟩
  refine q_loop (fun j s => ∃ i : Nat, i + j = 2 ∧ (1 ≤ i → r.thn.all Opr.ok = true) ∧ (2 ≤ i → r.els.all Opr.ok = true) ∧ s = ⟨155, frL [(1, pt c), (16, .row 1 E), (17, pi 2), (18, pi i)], ⟨upd σ.vars c r.av, σ.tips⟩⟩) (n := 2)
    (s0 := ⟨155, frL [(1, pt c), (16, .row 1 E), (17, pi 2), (18, pi (0 : Nat))], ⟨upd σ.vars c r.av, σ.tips⟩⟩)
    (Sub.mk' rfl ⟨⟨_, rfl, AV.le_refl _⟩, ⟨_, rfl, AV.le_of_eq (by rw [hE]; rfl)⟩, ⟨_, rfl, AV.le_refl _⟩, ⟨_, rfl, AV.le_refl _⟩, trivial⟩ (SgLe.refl _)) ⟨0, by omega, fun h => by omega, fun h => by omega, rfl⟩ ?_
  rintro j s ⟨i, hij, ha, hb, rfl⟩
  repeat (first | (refine q_tn ?_) | (refine q_nil ?_) | (refine q_seq ?_) | (refine q_reg [] ?_) | (refine q_load (by rfl) (by rfl) (by rfl) (by rfl) (upd_same _ _ _) (by rfl) ?_) | (refine q_val (by rfl) (by rfl) (by rfl) (by rfl) ?_) | (refine q_blk ?_) | (refine q_skip ?_) | (refine q_ct (by rfl) ?_) | (refine q_cf (by rfl) ?_) | (refine q_not (by rfl) (by rfl) ?_) | (refine q_bn ?_) | (refine q_be ?_) | (refine q_exit ?_) | (refine q_te ?_) | (refine q_ret ?_) | (refine q_tr ?_) | (refine q_br ?_))
  refine q_if rfl ?_ ?_
  · intro hlt
    have hlt : (i : Int) < 2 := of_decide_eq_true hlt
    obtain ⟨Lr, hl0, hl1, hl3, hget⟩ := rows i (by omega)
    repeat (first | (refine q_tn ?_) | (refine q_nil ?_) | (refine q_seq ?_) | (refine q_reg [] ?_) | (refine q_load (by rfl) (by rfl) (by rfl) (by rfl) (upd_same _ _ _) (by rfl) ?_) | (refine q_val (by rfl) (by rfl) (by rfl) (by rfl) ?_) | (refine q_blk ?_) | (refine q_skip ?_) | (refine q_ct (by rfl) ?_) | (refine q_cf (by rfl) ?_) | (refine q_not (by rfl) (by rfl) ?_) | (refine q_bn ?_) | (refine q_be ?_) | (refine q_exit ?_) | (refine q_te ?_) | (refine q_ret ?_) | (refine q_tr ?_) | (refine q_br ?_))
    refine q_idx2 (by rfl) (by rfl) (by rfl) e57 s30 (by rfl) (by rfl) (by rfl) (by rfl) hget ?_
    repeat (first | (refine q_tn ?_) | (refine q_nil ?_) | (refine q_seq ?_) | (refine q_reg [] ?_) | (refine q_load (by rfl) (by rfl) (by rfl) (by rfl) (upd_same _ _ _) (by rfl) ?_) | (refine q_val (by rfl) (by rfl) (by rfl) (by rfl) ?_) | (refine q_blk ?_) | (refine q_skip ?_) | (refine q_ct (by rfl) ?_) | (refine q_cf (by rfl) ?_) | (refine q_not (by rfl) (by rfl) ?_) | (refine q_bn ?_) | (refine q_be ?_) | (refine q_exit ?_) | (refine q_te ?_) | (refine q_ret ?_) | (refine q_tr ?_) | (refine q_br ?_))
    refine q_loop (fun j s => ∃ k : Nat, k + j = Lr.length ∧ (Lr.take k).all Opr.ok = true ∧ s = ⟨155, frL [(1, pt c), (16, .row 1 E), (17, pi 2), (18, pi i), (22, .row 20 (Lr.map Opr.av)), (23, pi Lr.length), (24, pi k)], ⟨upd σ.vars c r.av, σ.tips⟩⟩) (n := Lr.length)
      (s0 := ⟨155, frL [(1, pt c), (16, .row 1 E), (17, pi 2), (18, pi i), (22, .row 20 (Lr.map Opr.av)), (23, pi Lr.length), (24, pi (0 : Nat))], ⟨upd σ.vars c r.av, σ.tips⟩⟩)
      (Sub.mk' rfl ⟨⟨_, rfl, AV.le_refl _⟩, ⟨_, rfl, AV.le_refl _⟩, ⟨_, rfl, AV.le_refl _⟩, ⟨_, rfl, AV.le_refl _⟩, ⟨_, rfl, AV.le_refl _⟩, ⟨_, rfl, AV.le_of_eq (by simp)⟩, ⟨_, rfl, AV.le_refl _⟩, trivial⟩ (SgLe.refl _)) ⟨0, by omega, by simp, rfl⟩ ?_
    rintro j2 s ⟨k, hkj, hall, rfl⟩
    repeat (first | (refine q_tn ?_) | (refine q_nil ?_) | (refine q_seq ?_) | (refine q_reg [] ?_) | (refine q_load (by rfl) (by rfl) (by rfl) (by rfl) (upd_same _ _ _) (by rfl) ?_) | (refine q_val (by rfl) (by rfl) (by rfl) (by rfl) ?_) | (refine q_blk ?_) | (refine q_skip ?_) | (refine q_ct (by rfl) ?_) | (refine q_cf (by rfl) ?_) | (refine q_not (by rfl) (by rfl) ?_) | (refine q_bn ?_) | (refine q_be ?_) | (refine q_exit ?_) | (refine q_te ?_) | (refine q_ret ?_) | (refine q_tr ?_) | (refine q_br ?_))
    refine q_if rfl ?_ ?_
    · intro hlt2
      have hlt2 : (k : Int) < Lr.length := of_decide_eq_true hlt2
      have hk : k < Lr.length := by omega
      have hgk : (Lr.map Opr.av)[k]? = some (Lr[k]).av := by simp [hk]
      have htk : Lr.take (k + 1) = Lr.take k ++ [Lr[k]] := by rw [List.take_succ_eq_append_getElem hk]
      have hmem : Lr[k] ∈ Lr := List.getElem_mem hk
      generalize Lr[k] = o at hgk htk hmem
      repeat (first | (refine q_tn ?_) | (refine q_nil ?_) | (refine q_seq ?_) | (refine q_reg [] ?_) | (refine q_load (by rfl) (by rfl) (by rfl) (by rfl) (upd_same _ _ _) (by rfl) ?_) | (refine q_val (by rfl) (by rfl) (by rfl) (by rfl) ?_) | (refine q_blk ?_) | (refine q_skip ?_) | (refine q_ct (by rfl) ?_) | (refine q_cf (by rfl) ?_) | (refine q_not (by rfl) (by rfl) ?_) | (refine q_bn ?_) | (refine q_be ?_) | (refine q_exit ?_) | (refine q_te ?_) | (refine q_ret ?_) | (refine q_tr ?_) | (refine q_br ?_))
      refine q_idx2 (by rfl) (by rfl) (by rfl) e30 s59 (by rfl) (by rfl) (by rfl) (by rfl) hgk ?_
      repeat (first | (refine q_tn ?_) | (refine q_nil ?_) | (refine q_seq ?_) | (refine q_reg [] ?_) | (refine q_load (by rfl) (by rfl) (by rfl) (by rfl) (upd_same _ _ _) (by rfl) ?_) | (refine q_val (by rfl) (by rfl) (by rfl) (by rfl) ?_) | (refine q_blk ?_) | (refine q_skip ?_) | (refine q_ct (by rfl) ?_) | (refine q_cf (by rfl) ?_) | (refine q_not (by rfl) (by rfl) ?_) | (refine q_bn ?_) | (refine q_be ?_) | (refine q_exit ?_) | (refine q_te ?_) | (refine q_ret ?_) | (refine q_tr ?_) | (refine q_br ?_))
      refine q_w (by rfl) (by rfl) (by rfl) (by rfl) ?_
      refine AO.alloc (t := 59) rfl z59 ?_
      intro c2 hc2 _
      refine q_store (by rfl) (by rfl) (by rfl) (by rfl) (by rfl) (by rfl) s59 (by rfl) (upd_same _ _ _) (Nat.le_of_ble_eq_true rfl) ?_
      refine q_sig (σ := ⟨upd (upd σ.vars c r.av) c2 o.av, σ.tips⟩) ?_ ?_
      · show (⟨upd (upd (upd σ.vars c r.av) c2 z59l) c2 o.av, σ.tips⟩ : Sg) = _
        rw [upd_upd]
      repeat (first | (refine q_tn ?_) | (refine q_nil ?_) | (refine q_seq ?_) | (refine q_reg [] ?_) | (refine q_load (by rfl) (by rfl) (by rfl) (by rfl) (upd_same _ _ _) (by rfl) ?_) | (refine q_val (by rfl) (by rfl) (by rfl) (by rfl) ?_) | (refine q_blk ?_) | (refine q_skip ?_) | (refine q_ct (by rfl) ?_) | (refine q_cf (by rfl) ?_) | (refine q_not (by rfl) (by rfl) ?_) | (refine q_bn ?_) | (refine q_be ?_) | (refine q_exit ?_) | (refine q_te ?_) | (refine q_ret ?_) | (refine q_tr ?_) | (refine q_br ?_))
      refine q_call (f := 46) (by rfl) (by rfl) (by rfl) (by rfl) ((only_spec _ o.kind o.q o.w o.e).mono ?_)
      rintro _ _ ⟨rfl, rfl⟩
      repeat (first | (refine q_tn ?_) | (refine q_nil ?_) | (refine q_seq ?_) | (refine q_reg [] ?_) | (refine q_load (by rfl) (by rfl) (by rfl) (by rfl) (upd_same _ _ _) (by rfl) ?_) | (refine q_val (by rfl) (by rfl) (by rfl) (by rfl) ?_) | (refine q_blk ?_) | (refine q_skip ?_) | (refine q_ct (by rfl) ?_) | (refine q_cf (by rfl) ?_) | (refine q_not (by rfl) (by rfl) ?_) | (refine q_bn ?_) | (refine q_be ?_) | (refine q_exit ?_) | (refine q_te ?_) | (refine q_ret ?_) | (refine q_tr ?_) | (refine q_br ?_))
      cases ho : onlyB o.kind o.q o.w o.e
      · repeat (first | (refine q_tn ?_) | (refine q_nil ?_) | (refine q_seq ?_) | (refine q_reg [] ?_) | (refine q_load (by rfl) (by rfl) (by rfl) (by rfl) (upd_same _ _ _) (by rfl) ?_) | (refine q_val (by rfl) (by rfl) (by rfl) (by rfl) ?_) | (refine q_blk ?_) | (refine q_skip ?_) | (refine q_ct (by rfl) ?_) | (refine q_cf (by rfl) ?_) | (refine q_not (by rfl) (by rfl) ?_) | (refine q_bn ?_) | (refine q_be ?_) | (refine q_exit ?_) | (refine q_te ?_) | (refine q_ret ?_) | (refine q_tr ?_) | (refine q_br ?_))
        refine q_er rfl (AV.le_refl _) ((SgLe.var hc2).trans (SgLe.var hc)) ⟨?_, rfl⟩
        have : Lr.all Opr.ok = false := by
          rw [List.all_eq_false]; exact ⟨o, hmem, by simp [Opr.ok, ho]⟩
        rcases (by omega : i = 0 ∨ i = 1) with rfl | rfl
        · rw [hl0 rfl] at this; simp [resV, spareB, this]
        · rw [hl1 rfl] at this; simp [resV, spareB, this]
      · repeat (first | (refine q_tn ?_) | (refine q_nil ?_) | (refine q_seq ?_) | (refine q_reg [] ?_) | (refine q_load (by rfl) (by rfl) (by rfl) (by rfl) (upd_same _ _ _) (by rfl) ?_) | (refine q_val (by rfl) (by rfl) (by rfl) (by rfl) ?_) | (refine q_blk ?_) | (refine q_skip ?_) | (refine q_ct (by rfl) ?_) | (refine q_cf (by rfl) ?_) | (refine q_not (by rfl) (by rfl) ?_) | (refine q_bn ?_) | (refine q_be ?_) | (refine q_exit ?_) | (refine q_te ?_) | (refine q_ret ?_) | (refine q_tr ?_) | (refine q_br ?_))
        refine ⟨j2 - 1, ⟨155, frL [(1, pt c), (16, .row 1 E), (17, pi 2), (18, pi i), (22, .row 20 (Lr.map Opr.av)), (23, pi Lr.length), (24, pi (k + 1 : Nat))], ⟨upd σ.vars c r.av, σ.tips⟩⟩, by omega,
          Sub.mk' rfl ⟨⟨_, rfl, AV.le_refl _⟩, ⟨_, rfl, AV.le_refl _⟩, ⟨_, rfl, AV.le_refl _⟩, ⟨_, rfl, AV.le_refl _⟩, ⟨_, rfl, AV.le_refl _⟩, ⟨_, rfl, AV.le_refl _⟩, ⟨_, rfl, AV.le_of_eq (by rw [wrap_i64 _ (by omega) (by omega)]; rfl)⟩, trivial⟩ (SgLe.var hc2), k + 1, by omega, by rw [htk, List.all_append, hall]; simp [Opr.ok, ho], rfl⟩
    · intro hge
      have hge : ¬ ((k : Int) < Lr.length) := of_decide_eq_false hge
      obtain rfl : k = Lr.length := by omega
      rw [List.take_length] at hall
      repeat (first | (refine q_tn ?_) | (refine q_nil ?_) | (refine q_seq ?_) | (refine q_reg [] ?_) | (refine q_load (by rfl) (by rfl) (by rfl) (by rfl) (upd_same _ _ _) (by rfl) ?_) | (refine q_val (by rfl) (by rfl) (by rfl) (by rfl) ?_) | (refine q_blk ?_) | (refine q_skip ?_) | (refine q_ct (by rfl) ?_) | (refine q_cf (by rfl) ?_) | (refine q_not (by rfl) (by rfl) ?_) | (refine q_bn ?_) | (refine q_be ?_) | (refine q_exit ?_) | (refine q_te ?_) | (refine q_ret ?_) | (refine q_tr ?_) | (refine q_br ?_))
      refine ⟨j - 1, ⟨155, frL [(1, pt c), (16, .row 1 E), (17, pi 2), (18, pi (i + 1 : Nat))], ⟨upd σ.vars c r.av, σ.tips⟩⟩, by omega,
        Sub.mk' rfl ⟨⟨_, rfl, AV.le_refl _⟩, ⟨_, rfl, AV.le_refl _⟩, ⟨_, rfl, AV.le_refl _⟩, ⟨_, rfl, AV.le_of_eq (by rw [wrap_i64 _ (by omega) (by omega)]; rfl)⟩, trivial⟩ (SgLe.refl _), i + 1, by omega, ?_, ?_, rfl⟩
      · intro _
        rcases (by omega : i = 0 ∨ i = 1) with rfl | rfl
        · rw [← hl0 rfl]; exact hall
        · exact ha (by omega)
      · intro h
        obtain rfl : i = 1 := by omega
        rw [← hl1 rfl]; exact hall
  · intro hge
    have hge : ¬ ((i : Int) < 2) := of_decide_eq_false hge
    have ha := ha (by omega)
    have hb := hb (by omega)
    repeat (first | (refine q_tn ?_) | (refine q_nil ?_) | (refine q_seq ?_) | (refine q_reg [] ?_) | (refine q_load (by rfl) (by rfl) (by rfl) (by rfl) (upd_same _ _ _) (by rfl) ?_) | (refine q_val (by rfl) (by rfl) (by rfl) (by rfl) ?_) | (refine q_blk ?_) | (refine q_skip ?_) | (refine q_ct (by rfl) ?_) | (refine q_cf (by rfl) ?_) | (refine q_not (by rfl) (by rfl) ?_) | (refine q_bn ?_) | (refine q_be ?_) | (refine q_exit ?_) | (refine q_te ?_) | (refine q_ret ?_) | (refine q_tr ?_) | (refine q_br ?_))
    refine q_draw [] [0, 1, 2, 3, 4, 5, 6] mixed rfl (by decide +kernel) ?_
    repeat (first | (refine p_nil ?_) | (refine p_load (by rfl) (by rfl) (by rfl) (by rfl) (by rfl) (upd_same _ _ _) (by rfl) ?_) | (refine p_val (by rfl) (by rfl) (by rfl) (by rfl) (by rfl) ?_) | (refine p_not (by rfl) (by rfl) (by rfl) (by rfl) ?_) | (refine p_notW (by rfl) (by rfl) (by rfl) ?_ (by rfl)))
    refine p_w (by rfl) (by rfl) (by rfl) (by rfl) (by rfl) ?_
    refine AO.alloc (t := 34) rfl z34 ?_
    intro c2 hc2 hcx
    clear hcx
    obtain ⟨hne, _⟩ := upd_none hc2
    refine ⟨fun p hp hd => upd_ne _ ?_, ?_⟩
    · simp [readOf] at hp
      rcases hp with rfl | rfl <;> exact Ne.symm hne
    refine p_store (by rfl) (by rfl) (by rfl) (by rfl) (by rfl) (by rfl) (by rfl) s34 (by rfl) (upd_same _ _ _) (Nat.le_of_ble_eq_true rfl) ?_ ?_
    · intro p hp hd
      simp [readOf] at hp
      rcases hp with rfl | rfl <;> exact Ne.symm hne
    repeat (first | (refine p_nil ?_) | (refine p_load (by rfl) (by rfl) (by rfl) (by rfl) (by rfl) (upd_same _ _ _) (by rfl) ?_) | (refine p_val (by rfl) (by rfl) (by rfl) (by rfl) (by rfl) ?_) | (refine p_not (by rfl) (by rfl) (by rfl) (by rfl) ?_) | (refine p_notW (by rfl) (by rfl) (by rfl) ?_ (by rfl)))
    refine q_tn ?_
    have dr : SgLe ⟨upd (upd σ.vars c r.av) c2 r.wa.av, σ.tips⟩ σ := (SgLe.var hc2).trans (SgLe.var hc)
    refine AW.weak (s' := ⟨155, frL [(1, pt c), (7, pt c2), (8, pi r.kind)], ⟨upd (upd σ.vars c r.av) c2 r.wa.av, σ.tips⟩⟩) ?_ (Sub.mk' rfl ⟨⟨_, rfl, AV.le_refl _⟩, ⟨_, rfl, AV.le_refl _⟩, ⟨_, rfl, AV.le_refl _⟩, trivial⟩ (SgLe.of_eq ?_))
    case refine_2 =>
      show (⟨upd (upd (upd σ.vars c r.av) c2 z34l) c2 r.wa.av, σ.tips⟩ : Sg) = _
      rw [upd_upd]
    clear hc hc2 rows
    refine q_mid ⟨155, frL [(1, pt c), (7, pt c2), (8, pi r.kind), (9, pb (idB r.kind))], ⟨upd (upd σ.vars c r.av) c2 r.wa.av, σ.tips⟩⟩ ?_ ?_
    · repeat (first | (refine q_tn ?_) | (refine q_nil ?_) | (refine q_seq ?_) | (refine q_reg [] ?_) | (refine q_load (by rfl) (by rfl) (by rfl) (by rfl) (upd_same _ _ _) (by rfl) ?_) | (refine q_val (by rfl) (by rfl) (by rfl) (by rfl) ?_) | (refine q_blk ?_) | (refine q_skip ?_) | (refine q_ct (by rfl) ?_) | (refine q_cf (by rfl) ?_) | (refine q_not (by rfl) (by rfl) ?_) | (refine q_bn ?_) | (refine q_be ?_) | (refine q_exit ?_) | (refine q_te ?_) | (refine q_ret ?_) | (refine q_tr ?_) | (refine q_br ?_))
      all_goals cases k6 : (r.kind == 6)
      all_goals
        repeat (first | (refine q_tn ?_) | (refine q_nil ?_) | (refine q_seq ?_) | (refine q_reg [] ?_) | (refine q_load (by rfl) (by rfl) (by rfl) (by rfl) (upd_same _ _ _) (by rfl) ?_) | (refine q_val (by rfl) (by rfl) (by rfl) (by rfl) ?_) | (refine q_blk ?_) | (refine q_skip ?_) | (refine q_ct (by rfl) ?_) | (refine q_cf (by rfl) ?_) | (refine q_not (by rfl) (by rfl) ?_) | (refine q_bn ?_) | (refine q_be ?_) | (refine q_exit ?_) | (refine q_te ?_) | (refine q_ret ?_) | (refine q_tr ?_) | (refine q_br ?_))
      try any_goals exact Sub.mk' rfl ⟨⟨_, rfl, AV.le_refl _⟩, ⟨_, rfl, AV.le_refl _⟩, ⟨_, rfl, AV.le_refl _⟩, ⟨_, rfl, AV.le_of_eq (by simp [idB, *])⟩, trivial⟩ (SgLe.refl _)
      all_goals cases k7 : (r.kind == 7)
      all_goals
        repeat (first | (refine q_tn ?_) | (refine q_nil ?_) | (refine q_seq ?_) | (refine q_reg [] ?_) | (refine q_load (by rfl) (by rfl) (by rfl) (by rfl) (upd_same _ _ _) (by rfl) ?_) | (refine q_val (by rfl) (by rfl) (by rfl) (by rfl) ?_) | (refine q_blk ?_) | (refine q_skip ?_) | (refine q_ct (by rfl) ?_) | (refine q_cf (by rfl) ?_) | (refine q_not (by rfl) (by rfl) ?_) | (refine q_bn ?_) | (refine q_be ?_) | (refine q_exit ?_) | (refine q_te ?_) | (refine q_ret ?_) | (refine q_tr ?_) | (refine q_br ?_))
      try any_goals exact Sub.mk' rfl ⟨⟨_, rfl, AV.le_refl _⟩, ⟨_, rfl, AV.le_refl _⟩, ⟨_, rfl, AV.le_refl _⟩, ⟨_, rfl, AV.le_of_eq (by simp [idB, *])⟩, trivial⟩ (SgLe.refl _)
      all_goals cases k8 : (r.kind == 8)
      all_goals
        repeat (first | (refine q_tn ?_) | (refine q_nil ?_) | (refine q_seq ?_) | (refine q_reg [] ?_) | (refine q_load (by rfl) (by rfl) (by rfl) (by rfl) (upd_same _ _ _) (by rfl) ?_) | (refine q_val (by rfl) (by rfl) (by rfl) (by rfl) ?_) | (refine q_blk ?_) | (refine q_skip ?_) | (refine q_ct (by rfl) ?_) | (refine q_cf (by rfl) ?_) | (refine q_not (by rfl) (by rfl) ?_) | (refine q_bn ?_) | (refine q_be ?_) | (refine q_exit ?_) | (refine q_te ?_) | (refine q_ret ?_) | (refine q_tr ?_) | (refine q_br ?_))
      try any_goals exact Sub.mk' rfl ⟨⟨_, rfl, AV.le_refl _⟩, ⟨_, rfl, AV.le_refl _⟩, ⟨_, rfl, AV.le_refl _⟩, ⟨_, rfl, AV.le_of_eq (by simp [idB, *])⟩, trivial⟩ (SgLe.refl _)
      all_goals cases k9 : (r.kind == 9)
      all_goals
        repeat (first | (refine q_tn ?_) | (refine q_nil ?_) | (refine q_seq ?_) | (refine q_reg [] ?_) | (refine q_load (by rfl) (by rfl) (by rfl) (by rfl) (upd_same _ _ _) (by rfl) ?_) | (refine q_val (by rfl) (by rfl) (by rfl) (by rfl) ?_) | (refine q_blk ?_) | (refine q_skip ?_) | (refine q_ct (by rfl) ?_) | (refine q_cf (by rfl) ?_) | (refine q_not (by rfl) (by rfl) ?_) | (refine q_bn ?_) | (refine q_be ?_) | (refine q_exit ?_) | (refine q_te ?_) | (refine q_ret ?_) | (refine q_tr ?_) | (refine q_br ?_))
      try any_goals exact Sub.mk' rfl ⟨⟨_, rfl, AV.le_refl _⟩, ⟨_, rfl, AV.le_refl _⟩, ⟨_, rfl, AV.le_refl _⟩, ⟨_, rfl, AV.le_of_eq (by simp [idB, *])⟩, trivial⟩ (SgLe.refl _)
      all_goals cases k12 : (r.kind == 12)
      all_goals
        repeat (first | (refine q_tn ?_) | (refine q_nil ?_) | (refine q_seq ?_) | (refine q_reg [] ?_) | (refine q_load (by rfl) (by rfl) (by rfl) (by rfl) (upd_same _ _ _) (by rfl) ?_) | (refine q_val (by rfl) (by rfl) (by rfl) (by rfl) ?_) | (refine q_blk ?_) | (refine q_skip ?_) | (refine q_ct (by rfl) ?_) | (refine q_cf (by rfl) ?_) | (refine q_not (by rfl) (by rfl) ?_) | (refine q_bn ?_) | (refine q_be ?_) | (refine q_exit ?_) | (refine q_te ?_) | (refine q_ret ?_) | (refine q_tr ?_) | (refine q_br ?_))
      try any_goals exact Sub.mk' rfl ⟨⟨_, rfl, AV.le_refl _⟩, ⟨_, rfl, AV.le_refl _⟩, ⟨_, rfl, AV.le_refl _⟩, ⟨_, rfl, AV.le_of_eq (by simp [idB, *])⟩, trivial⟩ (SgLe.refl _)
    · refine q_seq ?_
      obtain ⟨o1, ho1⟩ : ∃ b, onlyB r.kind r.q r.w r.e = b := ⟨_, rfl⟩
      obtain ⟨f4, hf4⟩ : ∃ b, lens r = b := ⟨_, rfl⟩
      obtain ⟨f5, hf5⟩ : ∃ b, (r.rev == 0) = b := ⟨_, rfl⟩
      obtain ⟨f6, hf6⟩ : ∃ b, (r.id == 0) = b := ⟨_, rfl⟩
      obtain ⟨f7, hf7⟩ : ∃ b, (r.ttl == 0) = b := ⟨_, rfl⟩
      obtain ⟨f8, hf8⟩ : ∃ b, (IntKind.i64.wrap (((byts r.wa.key).length : Int) + ((byts r.wa.en).length : Int)) == 0) = b := ⟨_, rfl⟩
      obtain ⟨f9, hf9⟩ : ∃ b, (r.wa.start == 0) = b := ⟨_, rfl⟩
      obtain ⟨p1, hp1⟩ : ∃ b, r.wa.noP = b := ⟨_, rfl⟩
      obtain ⟨p2, hp2⟩ : ∃ b, r.wa.noD = b := ⟨_, rfl⟩
      obtain ⟨p3, hp3⟩ : ∃ b, r.wa.prev = b := ⟨_, rfl⟩
      unfold lens at hf4
      have fin : ∀ x, x = restB r → (AV.v (.bool x)).le (pb (spareB r)) := fun x hx => AV.le_of_eq (by rw [hx]; simp [spareB, ha, hb])
      unfold restB noWa lens at fin
      rw [ho1, hf4, hf5, hf6, hf7, hf8, hf9, hp1, hp2, hp3] at fin
      repeat (first | (refine q_tn ?_) | (refine q_nil ?_) | (refine q_seq ?_) | (refine q_reg [] ?_) | (refine q_load (by rfl) (by rfl) (by rfl) (by rfl) (upd_same _ _ _) (by rfl) ?_) | (refine q_load (by rfl) (by rfl) (by rfl) (by rfl) (upd2 hne _ _) (by rfl) ?_) | (refine q_val (by rfl) (by rfl) (by rfl) (by rfl) ?_) | (refine q_blk ?_) | (refine q_skip ?_) | (refine q_ct (by rfl) ?_) | (refine q_cf (by rfl) ?_) | (refine q_not (by rfl) (by rfl) ?_) | (refine q_bn ?_) | (refine q_be ?_) | (refine q_exit ?_) | (refine q_te ?_) | (refine q_ret ?_) | (refine q_tr ?_) | (refine q_br ?_))
      refine q_call (f := 46) (by rfl) (by rfl) (by rfl) (by rfl) ((only_spec _ r.kind r.q r.w r.e).mono ?_)
      rintro _ _ ⟨rfl, rfl⟩
      rw [ho1]
      cases o1
      · repeat (first | (refine q_tn ?_) | (refine q_nil ?_) | (refine q_seq ?_) | (refine q_reg [] ?_) | (refine q_load (by rfl) (by rfl) (by rfl) (by rfl) (upd_same _ _ _) (by rfl) ?_) | (refine q_load (by rfl) (by rfl) (by rfl) (by rfl) (upd2 hne _ _) (by rfl) ?_) | (refine q_val (by rfl) (by rfl) (by rfl) (by rfl) ?_) | (refine q_blk ?_) | (refine q_skip ?_) | (refine q_ct (by rfl) ?_) | (refine q_cf (by rfl) ?_) | (refine q_not (by rfl) (by rfl) ?_) | (refine q_bn ?_) | (refine q_be ?_) | (refine q_exit ?_) | (refine q_te ?_) | (refine q_ret ?_) | (refine q_tr ?_) | (refine q_br ?_))
        exact q_er rfl (fin _ (by simp)) dr ⟨rfl, rfl⟩
      rcases cls r.kind with ⟨e4, e5, ei, e6, e11⟩ | ⟨e4, e5, ei, e6, e11⟩ | ⟨e4, e5, ei, e6, e11⟩ | ⟨e4, e5, ei, e6, e11⟩ | ⟨e4, e5, ei, e6, e11⟩ | ⟨e4, e5, ei, e6, e11⟩
      all_goals
        rw [e4, e5, ei, e6, e11] at fin
        rw [ei]
        repeat (first | (refine q_tn ?_) | (refine q_nil ?_) | (refine q_seq ?_) | (refine q_reg [] ?_) | (refine q_load (by rfl) (by rfl) (by rfl) (by rfl) (upd_same _ _ _) (by rfl) ?_) | (refine q_load (by rfl) (by rfl) (by rfl) (by rfl) (upd2 hne _ _) (by rfl) ?_) | (refine q_val (by rfl) (by rfl) (by rfl) (by rfl) ?_) | (refine q_blk ?_) | (refine q_skip ?_) | (refine q_ct (by rfl) ?_) | (refine q_cf (by rfl) ?_) | (refine q_not (by rfl) (by rfl) ?_) | (refine q_bn ?_) | (refine q_be ?_) | (refine q_exit ?_) | (refine q_te ?_) | (refine q_ret ?_) | (refine q_tr ?_) | (refine q_br ?_))
        try rw [e4]
      all_goals
        repeat (first | (refine q_tn ?_) | (refine q_nil ?_) | (refine q_seq ?_) | (refine q_reg [] ?_) | (refine q_load (by rfl) (by rfl) (by rfl) (by rfl) (upd_same _ _ _) (by rfl) ?_) | (refine q_load (by rfl) (by rfl) (by rfl) (by rfl) (upd2 hne _ _) (by rfl) ?_) | (refine q_val (by rfl) (by rfl) (by rfl) (by rfl) ?_) | (refine q_blk ?_) | (refine q_skip ?_) | (refine q_ct (by rfl) ?_) | (refine q_cf (by rfl) ?_) | (refine q_not (by rfl) (by rfl) ?_) | (refine q_bn ?_) | (refine q_be ?_) | (refine q_exit ?_) | (refine q_te ?_) | (refine q_ret ?_) | (refine q_tr ?_) | (refine q_br ?_))
      all_goals try (rw [hf4]; cases f4)
      all_goals
        repeat (first | (refine q_tn ?_) | (refine q_nil ?_) | (refine q_seq ?_) | (refine q_reg [] ?_) | (refine q_load (by rfl) (by rfl) (by rfl) (by rfl) (upd_same _ _ _) (by rfl) ?_) | (refine q_load (by rfl) (by rfl) (by rfl) (by rfl) (upd2 hne _ _) (by rfl) ?_) | (refine q_val (by rfl) (by rfl) (by rfl) (by rfl) ?_) | (refine q_blk ?_) | (refine q_skip ?_) | (refine q_ct (by rfl) ?_) | (refine q_cf (by rfl) ?_) | (refine q_not (by rfl) (by rfl) ?_) | (refine q_bn ?_) | (refine q_be ?_) | (refine q_exit ?_) | (refine q_te ?_) | (refine q_ret ?_) | (refine q_tr ?_) | (refine q_br ?_))
      try any_goals exact q_er rfl (fin _ (by simp [hp3])) dr ⟨rfl, rfl⟩
      all_goals
        repeat (first | (refine q_tn ?_) | (refine q_nil ?_) | (refine q_seq ?_) | (refine q_reg [] ?_) | (refine q_load (by rfl) (by rfl) (by rfl) (by rfl) (upd_same _ _ _) (by rfl) ?_) | (refine q_load (by rfl) (by rfl) (by rfl) (by rfl) (upd2 hne _ _) (by rfl) ?_) | (refine q_val (by rfl) (by rfl) (by rfl) (by rfl) ?_) | (refine q_blk ?_) | (refine q_skip ?_) | (refine q_ct (by rfl) ?_) | (refine q_cf (by rfl) ?_) | (refine q_not (by rfl) (by rfl) ?_) | (refine q_bn ?_) | (refine q_be ?_) | (refine q_exit ?_) | (refine q_te ?_) | (refine q_ret ?_) | (refine q_tr ?_) | (refine q_br ?_))
        try rw [e5]
      all_goals
        repeat (first | (refine q_tn ?_) | (refine q_nil ?_) | (refine q_seq ?_) | (refine q_reg [] ?_) | (refine q_load (by rfl) (by rfl) (by rfl) (by rfl) (upd_same _ _ _) (by rfl) ?_) | (refine q_load (by rfl) (by rfl) (by rfl) (by rfl) (upd2 hne _ _) (by rfl) ?_) | (refine q_val (by rfl) (by rfl) (by rfl) (by rfl) ?_) | (refine q_blk ?_) | (refine q_skip ?_) | (refine q_ct (by rfl) ?_) | (refine q_cf (by rfl) ?_) | (refine q_not (by rfl) (by rfl) ?_) | (refine q_bn ?_) | (refine q_be ?_) | (refine q_exit ?_) | (refine q_te ?_) | (refine q_ret ?_) | (refine q_tr ?_) | (refine q_br ?_))
      all_goals try (rw [hf5]; cases f5)
      all_goals
        repeat (first | (refine q_tn ?_) | (refine q_nil ?_) | (refine q_seq ?_) | (refine q_reg [] ?_) | (refine q_load (by rfl) (by rfl) (by rfl) (by rfl) (upd_same _ _ _) (by rfl) ?_) | (refine q_load (by rfl) (by rfl) (by rfl) (by rfl) (upd2 hne _ _) (by rfl) ?_) | (refine q_val (by rfl) (by rfl) (by rfl) (by rfl) ?_) | (refine q_blk ?_) | (refine q_skip ?_) | (refine q_ct (by rfl) ?_) | (refine q_cf (by rfl) ?_) | (refine q_not (by rfl) (by rfl) ?_) | (refine q_bn ?_) | (refine q_be ?_) | (refine q_exit ?_) | (refine q_te ?_) | (refine q_ret ?_) | (refine q_tr ?_) | (refine q_br ?_))
      try any_goals exact q_er rfl (fin _ (by simp [hp3])) dr ⟨rfl, rfl⟩
      all_goals
        repeat (first | (refine q_tn ?_) | (refine q_nil ?_) | (refine q_seq ?_) | (refine q_reg [] ?_) | (refine q_load (by rfl) (by rfl) (by rfl) (by rfl) (upd_same _ _ _) (by rfl) ?_) | (refine q_load (by rfl) (by rfl) (by rfl) (by rfl) (upd2 hne _ _) (by rfl) ?_) | (refine q_val (by rfl) (by rfl) (by rfl) (by rfl) ?_) | (refine q_blk ?_) | (refine q_skip ?_) | (refine q_ct (by rfl) ?_) | (refine q_cf (by rfl) ?_) | (refine q_not (by rfl) (by rfl) ?_) | (refine q_bn ?_) | (refine q_be ?_) | (refine q_exit ?_) | (refine q_te ?_) | (refine q_ret ?_) | (refine q_tr ?_) | (refine q_br ?_))
      all_goals try (rw [hf6]; cases f6)
      all_goals
        repeat (first | (refine q_tn ?_) | (refine q_nil ?_) | (refine q_seq ?_) | (refine q_reg [] ?_) | (refine q_load (by rfl) (by rfl) (by rfl) (by rfl) (upd_same _ _ _) (by rfl) ?_) | (refine q_load (by rfl) (by rfl) (by rfl) (by rfl) (upd2 hne _ _) (by rfl) ?_) | (refine q_val (by rfl) (by rfl) (by rfl) (by rfl) ?_) | (refine q_blk ?_) | (refine q_skip ?_) | (refine q_ct (by rfl) ?_) | (refine q_cf (by rfl) ?_) | (refine q_not (by rfl) (by rfl) ?_) | (refine q_bn ?_) | (refine q_be ?_) | (refine q_exit ?_) | (refine q_te ?_) | (refine q_ret ?_) | (refine q_tr ?_) | (refine q_br ?_))
      try any_goals exact q_er rfl (fin _ (by simp [hp3])) dr ⟨rfl, rfl⟩
      all_goals
        repeat (first | (refine q_tn ?_) | (refine q_nil ?_) | (refine q_seq ?_) | (refine q_reg [] ?_) | (refine q_load (by rfl) (by rfl) (by rfl) (by rfl) (upd_same _ _ _) (by rfl) ?_) | (refine q_load (by rfl) (by rfl) (by rfl) (by rfl) (upd2 hne _ _) (by rfl) ?_) | (refine q_val (by rfl) (by rfl) (by rfl) (by rfl) ?_) | (refine q_blk ?_) | (refine q_skip ?_) | (refine q_ct (by rfl) ?_) | (refine q_cf (by rfl) ?_) | (refine q_not (by rfl) (by rfl) ?_) | (refine q_bn ?_) | (refine q_be ?_) | (refine q_exit ?_) | (refine q_te ?_) | (refine q_ret ?_) | (refine q_tr ?_) | (refine q_br ?_))
        try rw [e6]
      all_goals
        repeat (first | (refine q_tn ?_) | (refine q_nil ?_) | (refine q_seq ?_) | (refine q_reg [] ?_) | (refine q_load (by rfl) (by rfl) (by rfl) (by rfl) (upd_same _ _ _) (by rfl) ?_) | (refine q_load (by rfl) (by rfl) (by rfl) (by rfl) (upd2 hne _ _) (by rfl) ?_) | (refine q_val (by rfl) (by rfl) (by rfl) (by rfl) ?_) | (refine q_blk ?_) | (refine q_skip ?_) | (refine q_ct (by rfl) ?_) | (refine q_cf (by rfl) ?_) | (refine q_not (by rfl) (by rfl) ?_) | (refine q_bn ?_) | (refine q_be ?_) | (refine q_exit ?_) | (refine q_te ?_) | (refine q_ret ?_) | (refine q_tr ?_) | (refine q_br ?_))
      all_goals try (rw [hf7]; cases f7)
      all_goals
        repeat (first | (refine q_tn ?_) | (refine q_nil ?_) | (refine q_seq ?_) | (refine q_reg [] ?_) | (refine q_load (by rfl) (by rfl) (by rfl) (by rfl) (upd_same _ _ _) (by rfl) ?_) | (refine q_load (by rfl) (by rfl) (by rfl) (by rfl) (upd2 hne _ _) (by rfl) ?_) | (refine q_val (by rfl) (by rfl) (by rfl) (by rfl) ?_) | (refine q_blk ?_) | (refine q_skip ?_) | (refine q_ct (by rfl) ?_) | (refine q_cf (by rfl) ?_) | (refine q_not (by rfl) (by rfl) ?_) | (refine q_bn ?_) | (refine q_be ?_) | (refine q_exit ?_) | (refine q_te ?_) | (refine q_ret ?_) | (refine q_tr ?_) | (refine q_br ?_))
      try any_goals exact q_er rfl (fin _ (by simp [hp3])) dr ⟨rfl, rfl⟩
      all_goals
        repeat (first | (refine q_tn ?_) | (refine q_nil ?_) | (refine q_seq ?_) | (refine q_reg [] ?_) | (refine q_load (by rfl) (by rfl) (by rfl) (by rfl) (upd_same _ _ _) (by rfl) ?_) | (refine q_load (by rfl) (by rfl) (by rfl) (by rfl) (upd2 hne _ _) (by rfl) ?_) | (refine q_val (by rfl) (by rfl) (by rfl) (by rfl) ?_) | (refine q_blk ?_) | (refine q_skip ?_) | (refine q_ct (by rfl) ?_) | (refine q_cf (by rfl) ?_) | (refine q_not (by rfl) (by rfl) ?_) | (refine q_bn ?_) | (refine q_be ?_) | (refine q_exit ?_) | (refine q_te ?_) | (refine q_ret ?_) | (refine q_tr ?_) | (refine q_br ?_))
        try rw [e11]
      all_goals
        repeat (first | (refine q_tn ?_) | (refine q_nil ?_) | (refine q_seq ?_) | (refine q_reg [] ?_) | (refine q_load (by rfl) (by rfl) (by rfl) (by rfl) (upd_same _ _ _) (by rfl) ?_) | (refine q_load (by rfl) (by rfl) (by rfl) (by rfl) (upd2 hne _ _) (by rfl) ?_) | (refine q_val (by rfl) (by rfl) (by rfl) (by rfl) ?_) | (refine q_blk ?_) | (refine q_skip ?_) | (refine q_ct (by rfl) ?_) | (refine q_cf (by rfl) ?_) | (refine q_not (by rfl) (by rfl) ?_) | (refine q_bn ?_) | (refine q_be ?_) | (refine q_exit ?_) | (refine q_te ?_) | (refine q_ret ?_) | (refine q_tr ?_) | (refine q_br ?_))
      all_goals try (rw [hf8]; cases f8)
      all_goals
        repeat (first | (refine q_tn ?_) | (refine q_nil ?_) | (refine q_seq ?_) | (refine q_reg [] ?_) | (refine q_load (by rfl) (by rfl) (by rfl) (by rfl) (upd_same _ _ _) (by rfl) ?_) | (refine q_load (by rfl) (by rfl) (by rfl) (by rfl) (upd2 hne _ _) (by rfl) ?_) | (refine q_val (by rfl) (by rfl) (by rfl) (by rfl) ?_) | (refine q_blk ?_) | (refine q_skip ?_) | (refine q_ct (by rfl) ?_) | (refine q_cf (by rfl) ?_) | (refine q_not (by rfl) (by rfl) ?_) | (refine q_bn ?_) | (refine q_be ?_) | (refine q_exit ?_) | (refine q_te ?_) | (refine q_ret ?_) | (refine q_tr ?_) | (refine q_br ?_))
      try any_goals exact q_er rfl (fin _ (by simp [hp3])) dr ⟨rfl, rfl⟩
      all_goals
        repeat (first | (refine q_tn ?_) | (refine q_nil ?_) | (refine q_seq ?_) | (refine q_reg [] ?_) | (refine q_load (by rfl) (by rfl) (by rfl) (by rfl) (upd_same _ _ _) (by rfl) ?_) | (refine q_load (by rfl) (by rfl) (by rfl) (by rfl) (upd2 hne _ _) (by rfl) ?_) | (refine q_val (by rfl) (by rfl) (by rfl) (by rfl) ?_) | (refine q_blk ?_) | (refine q_skip ?_) | (refine q_ct (by rfl) ?_) | (refine q_cf (by rfl) ?_) | (refine q_not (by rfl) (by rfl) ?_) | (refine q_bn ?_) | (refine q_be ?_) | (refine q_exit ?_) | (refine q_te ?_) | (refine q_ret ?_) | (refine q_tr ?_) | (refine q_br ?_))
      all_goals try (rw [hf9]; cases f9)
      all_goals
        repeat (first | (refine q_tn ?_) | (refine q_nil ?_) | (refine q_seq ?_) | (refine q_reg [] ?_) | (refine q_load (by rfl) (by rfl) (by rfl) (by rfl) (upd_same _ _ _) (by rfl) ?_) | (refine q_load (by rfl) (by rfl) (by rfl) (by rfl) (upd2 hne _ _) (by rfl) ?_) | (refine q_val (by rfl) (by rfl) (by rfl) (by rfl) ?_) | (refine q_blk ?_) | (refine q_skip ?_) | (refine q_ct (by rfl) ?_) | (refine q_cf (by rfl) ?_) | (refine q_not (by rfl) (by rfl) ?_) | (refine q_bn ?_) | (refine q_be ?_) | (refine q_exit ?_) | (refine q_te ?_) | (refine q_ret ?_) | (refine q_tr ?_) | (refine q_br ?_))
      try any_goals exact q_er rfl (fin _ (by simp [hp3])) dr ⟨rfl, rfl⟩
      all_goals
        repeat (first | (refine q_tn ?_) | (refine q_nil ?_) | (refine q_seq ?_) | (refine q_reg [] ?_) | (refine q_load (by rfl) (by rfl) (by rfl) (by rfl) (upd_same _ _ _) (by rfl) ?_) | (refine q_load (by rfl) (by rfl) (by rfl) (by rfl) (upd2 hne _ _) (by rfl) ?_) | (refine q_val (by rfl) (by rfl) (by rfl) (by rfl) ?_) | (refine q_blk ?_) | (refine q_skip ?_) | (refine q_ct (by rfl) ?_) | (refine q_cf (by rfl) ?_) | (refine q_not (by rfl) (by rfl) ?_) | (refine q_bn ?_) | (refine q_be ?_) | (refine q_exit ?_) | (refine q_te ?_) | (refine q_ret ?_) | (refine q_tr ?_) | (refine q_br ?_))
      all_goals try (rw [hp1]; cases p1)
      all_goals
        repeat (first | (refine q_tn ?_) | (refine q_nil ?_) | (refine q_seq ?_) | (refine q_reg [] ?_) | (refine q_load (by rfl) (by rfl) (by rfl) (by rfl) (upd_same _ _ _) (by rfl) ?_) | (refine q_load (by rfl) (by rfl) (by rfl) (by rfl) (upd2 hne _ _) (by rfl) ?_) | (refine q_val (by rfl) (by rfl) (by rfl) (by rfl) ?_) | (refine q_blk ?_) | (refine q_skip ?_) | (refine q_ct (by rfl) ?_) | (refine q_cf (by rfl) ?_) | (refine q_not (by rfl) (by rfl) ?_) | (refine q_bn ?_) | (refine q_be ?_) | (refine q_exit ?_) | (refine q_te ?_) | (refine q_ret ?_) | (refine q_tr ?_) | (refine q_br ?_))
      try any_goals exact q_er rfl (fin _ (by simp [hp3])) dr ⟨rfl, rfl⟩
      all_goals
        repeat (first | (refine q_tn ?_) | (refine q_nil ?_) | (refine q_seq ?_) | (refine q_reg [] ?_) | (refine q_load (by rfl) (by rfl) (by rfl) (by rfl) (upd_same _ _ _) (by rfl) ?_) | (refine q_load (by rfl) (by rfl) (by rfl) (by rfl) (upd2 hne _ _) (by rfl) ?_) | (refine q_val (by rfl) (by rfl) (by rfl) (by rfl) ?_) | (refine q_blk ?_) | (refine q_skip ?_) | (refine q_ct (by rfl) ?_) | (refine q_cf (by rfl) ?_) | (refine q_not (by rfl) (by rfl) ?_) | (refine q_bn ?_) | (refine q_be ?_) | (refine q_exit ?_) | (refine q_te ?_) | (refine q_ret ?_) | (refine q_tr ?_) | (refine q_br ?_))
      all_goals try (rw [hp2]; cases p2)
      all_goals
        repeat (first | (refine q_tn ?_) | (refine q_nil ?_) | (refine q_seq ?_) | (refine q_reg [] ?_) | (refine q_load (by rfl) (by rfl) (by rfl) (by rfl) (upd_same _ _ _) (by rfl) ?_) | (refine q_load (by rfl) (by rfl) (by rfl) (by rfl) (upd2 hne _ _) (by rfl) ?_) | (refine q_val (by rfl) (by rfl) (by rfl) (by rfl) ?_) | (refine q_blk ?_) | (refine q_skip ?_) | (refine q_ct (by rfl) ?_) | (refine q_cf (by rfl) ?_) | (refine q_not (by rfl) (by rfl) ?_) | (refine q_bn ?_) | (refine q_be ?_) | (refine q_exit ?_) | (refine q_te ?_) | (refine q_ret ?_) | (refine q_tr ?_) | (refine q_br ?_))
      try any_goals exact q_er rfl (fin _ (by simp [hp3])) dr ⟨rfl, rfl⟩
      all_goals
        repeat (first | (refine q_tn ?_) | (refine q_nil ?_) | (refine q_seq ?_) | (refine q_reg [] ?_) | (refine q_load (by rfl) (by rfl) (by rfl) (by rfl) (upd_same _ _ _) (by rfl) ?_) | (refine q_load (by rfl) (by rfl) (by rfl) (by rfl) (upd2 hne _ _) (by rfl) ?_) | (refine q_val (by rfl) (by rfl) (by rfl) (by rfl) ?_) | (refine q_blk ?_) | (refine q_skip ?_) | (refine q_ct (by rfl) ?_) | (refine q_cf (by rfl) ?_) | (refine q_not (by rfl) (by rfl) ?_) | (refine q_bn ?_) | (refine q_be ?_) | (refine q_exit ?_) | (refine q_te ?_) | (refine q_ret ?_) | (refine q_tr ?_) | (refine q_br ?_))
      all_goals try (rw [hp3]; cases p3)
      all_goals
        repeat (first | (refine q_tn ?_) | (refine q_nil ?_) | (refine q_seq ?_) | (refine q_reg [] ?_) | (refine q_load (by rfl) (by rfl) (by rfl) (by rfl) (upd_same _ _ _) (by rfl) ?_) | (refine q_load (by rfl) (by rfl) (by rfl) (by rfl) (upd2 hne _ _) (by rfl) ?_) | (refine q_val (by rfl) (by rfl) (by rfl) (by rfl) ?_) | (refine q_blk ?_) | (refine q_skip ?_) | (refine q_ct (by rfl) ?_) | (refine q_cf (by rfl) ?_) | (refine q_not (by rfl) (by rfl) ?_) | (refine q_bn ?_) | (refine q_be ?_) | (refine q_exit ?_) | (refine q_te ?_) | (refine q_ret ?_) | (refine q_tr ?_) | (refine q_br ?_))
      try any_goals exact q_er rfl (fin _ (by simp [hp3])) dr ⟨rfl, rfl⟩
end Go.Ab
