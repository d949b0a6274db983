/- A part of the proof of the seat's rows, said of the kit's own model: the codec's writer: a row of operations. Conditions: as each theorem says. -/
import Derived.Test.YthhhklmdceieaaaCd3
namespace Go.Ab
open Go Go.Proofs
set_option linter.unusedVariables false
set_option linter.unusedSimpArgs false
set_option maxRecDepth 100000
theorem q_idx2 {P : Program} {ow : List Nat} {ops : Array Oper} {K : St → Prop} {l : List Oper} {o : Oper} {s : St} {t e sz : Nat} {p i : Operand} {k : IntKind} {n : Nat} {v : AV} {es : List (List AV)} {x : List AV} (ho : o.op = .indexAddr t p i) (hg : gate ops s o.guard = some true) (hd : dstOk s o.dst = true) (he : elemT P t = some e) (hs : sizeT P e = some sz) (hi : look s i = some (.v (.int k n))) (hp : look s p = some v) (hr : v.rows? sz = some es)
    (hv : indexV sz v n = none) (hx : es[n]? = some x) (h : RV P ow ops K l (s.puto o.dst (.el x))) : RV P ow ops K (o :: l) s := by
  refine q_idx ho hg hd he hs hi hp hr (by omega) (by have := (List.getElem?_eq_some_iff.1 hx).1; omega) hv ?_
  have : es.getD (n : Int).toNat [] = x := by simp [List.getD, hx]
  rw [this]; exact h
theorem e30 : elemT Try.prog 30 = some 59 := by kernel_rfl
theorem s59 : sizeT Try.prog 59 = some 20 := by kernel_rfl
structure Opr where
  kind : Int
  q : Qry
  w : Wri
  e : Ers
def Opr.av (o : Opr) : List AV := [pi o.kind, .row 1 (byts o.q.key), .row 1 (byts o.q.en), pi o.q.at_, pi o.q.lim, pi o.q.sort, pb o.q.desc, pb o.q.keys, pb o.q.count, pi o.q.minM, pi o.q.maxM, pi o.q.minC, pi o.q.maxC, .row 1 (byts o.w.key), .row 1 (byts o.w.val), pi o.w.lease, pb o.w.prev, .row 1 (byts o.e.key), .row 1 (byts o.e.en), pb o.e.prev]
def z59l : List AV := [pi 0, .v (.slice none 0 0), .v (.slice none 0 0), pi 0, pi 0, pi 0, pb false, pb false, pb false, pi 0, pi 0, pi 0, pi 0, .v (.slice none 0 0), .v (.slice none 0 0), pi 0, pb false, .v (.slice none 0 0), .v (.slice none 0 0), pb false]
theorem z59 : zeroT Try.prog 59 = some z59l := by kernel_rfl
def oB (o : Opr) : List Int := [o.kind % 256] ++ (if (o.kind == 1) = true then qB o.q else if (o.kind == 2) = true then wB o.w else if (o.kind == 3) = true then eB o.e else [])
def oBad (o : Opr) : Bool := byteN o.kind || (if (o.kind == 1) = true then qBad o.q else if (o.kind == 2) = true then wBad o.w else if (o.kind == 3) = true then eBad o.e else true)
def osB (l : List Opr) : List Int := [(l.length : Int) % 256] ++ l.flatMap oB
def osBad (l : List Opr) : Bool := byteN l.length || l.any oBad
theorem oB_len (o : Opr) : (oB o).length ≤ 200001 := by
  have := qB_len o.q; have := wB_len o.w; have := eB_len o.e
  unfold oB; split
  · simp; omega
  · split
    · simp; omega
    · split <;> simp <;> omega
theorem flat_oB (l : List Opr) : (l.flatMap oB).length ≤ l.length * 200001 := by
  induction l with
  | nil => simp
  | cons o l ih => have := oB_len o; simp [List.flatMap_cons] at ih ⊢; omega
theorem osB_len (l : List Opr) (h : l.length ≤ 300) : (osB l).length ≤ 60001000 := by
  have := flat_oB l; unfold osB; simp at this ⊢; omega
section
variable (σ : Sg) (b : Nat) (h : Hdr) (l : List Int) (bad : Bool) (hs : h.sz = 1) (hF : Free σ.tips h)
include hs hF
theorem ops_spec (L : List Opr) (hl : l.length ≤ 800000000) (hL : L.length ≤ 300) : ACalls Try.prog 44 [pt b, .row 20 (L.map Opr.av)] (Wr σ b h l bad) (Wrote σ b (l ++ osB L) (bad || osBad L)) := by
  refine q_body Try.func44 rfl (by kernel_rfl) Try.ntmps44 (Nat.le_of_ble_eq_true rfl) ?_
  repeat (first | (refine q_tn ?_) | (refine q_nil ?_) | (refine q_seq ?_) | (refine q_reg [] ?_) | (refine q_load (by rfl) (by rfl) (by rfl) (by rfl) (upd_same _ _ _) (by rfl) ?_) | (refine q_val (by rfl) (by rfl) (by rfl) (by rfl) ?_) | (refine q_blk ?_) | (refine q_skip ?_) | (refine q_ct (by rfl) ?_) | (refine q_cf (by rfl) ?_) | (refine q_not (by rfl) (by rfl) ?_) | (refine q_bn ?_) | (refine q_be ?_) | (refine q_exit ?_) | (refine q_te ?_) | (refine q_ret ?_) | (refine q_tr ?_) | (refine q_br ?_))
  apply q_wcall (f := 17); exact rfl; exact rfl; exact rfl; exact rfl; exact rfl; exact small_spec σ _ _ _ _ hs hF ((L.map Opr.av).length : Int) (by omega); intro h hs hF
  repeat (first | (refine q_tn ?_) | (refine q_nil ?_) | (refine q_seq ?_) | (refine q_reg [] ?_) | (refine q_load (by rfl) (by rfl) (by rfl) (by rfl) (upd_same _ _ _) (by rfl) ?_) | (refine q_val (by rfl) (by rfl) (by rfl) (by rfl) ?_) | (refine q_blk ?_) | (refine q_skip ?_) | (refine q_ct (by rfl) ?_) | (refine q_cf (by rfl) ?_) | (refine q_not (by rfl) (by rfl) ?_) | (refine q_bn ?_) | (refine q_be ?_) | (refine q_exit ?_) | (refine q_te ?_) | (refine q_ret ?_) | (refine q_tr ?_) | (refine q_br ?_))
  refine q_loop (fun j s => ∃ (i : Nat) (h : Hdr), i + j = L.length ∧ h.sz = 1 ∧ Free σ.tips h ∧ s = ⟨44, frL [(0, pt b), (10, .row 20 (L.map Opr.av)), (11, pi L.length), (12, pi i)], Wr σ b h (l ++ ([(L.length : Int) % 256] ++ (L.take i).flatMap oB)) (bad || (byteN L.length || (L.take i).any oBad))⟩) (n := L.length)
    (s0 := ⟨44, frL [(0, pt b), (10, .row 20 (L.map Opr.av)), (11, pi L.length), (12, pi (0 : Nat))], Wr σ b h (l ++ ([(L.length : Int) % 256] ++ (L.take 0).flatMap oB)) (bad || (byteN L.length || (L.take 0).any oBad))⟩)
    (Sub.mk' rfl ⟨⟨_, rfl, AV.le_refl _⟩, ⟨_, rfl, AV.le_refl _⟩, ⟨_, rfl, AV.le_of_eq (by simp)⟩, ⟨_, rfl, AV.le_refl _⟩, trivial⟩ (wr_le (by simp) (by simp [byteN, Bool.or_assoc]))) ⟨0, h, by omega, hs, hF, rfl⟩ ?_
  rintro j s ⟨i, h, hij, hs, hF, rfl⟩
  repeat (first | (refine q_tn ?_) | (refine q_nil ?_) | (refine q_seq ?_) | (refine q_reg [] ?_) | (refine q_load (by rfl) (by rfl) (by rfl) (by rfl) (upd_same _ _ _) (by rfl) ?_) | (refine q_val (by rfl) (by rfl) (by rfl) (by rfl) ?_) | (refine q_blk ?_) | (refine q_skip ?_) | (refine q_ct (by rfl) ?_) | (refine q_cf (by rfl) ?_) | (refine q_not (by rfl) (by rfl) ?_) | (refine q_bn ?_) | (refine q_be ?_) | (refine q_exit ?_) | (refine q_te ?_) | (refine q_ret ?_) | (refine q_tr ?_) | (refine q_br ?_))
  refine q_if rfl ?_ ?_
  · intro hlt
    have hlt : (i : Int) < L.length := of_decide_eq_true hlt
    have hi : i < L.length := by omega
    have hfl := flat_oB (L.take i)
    have hk : (L.take i).length = i := by simp; omega
    have hget : (L.map Opr.av)[i]? = some (L[i]).av := by simp [hi]
    have htk : L.take (i + 1) = L.take i ++ [L[i]] := by rw [List.take_succ_eq_append_getElem hi]
    generalize L[i] = o at hget htk
    have q1 := qB_len o.q
    have q2 := wB_len o.w
    have q3 := eB_len o.e
    have hbase : (l ++ ([(L.length : Int) % 256] ++ (L.take i).flatMap oB)).length ≤ 870000000 := by simp at hfl ⊢; omega
    generalize hb0 : l ++ ([(L.length : Int) % 256] ++ (L.take i).flatMap oB) = b0 at hbase
    generalize hd0 : (bad || (byteN L.length || (L.take i).any oBad)) = d0
    repeat (first | (refine q_tn ?_) | (refine q_nil ?_) | (refine q_seq ?_) | (refine q_reg [] ?_) | (refine q_load (by rfl) (by rfl) (by rfl) (by rfl) (upd_same _ _ _) (by rfl) ?_) | (refine q_val (by rfl) (by rfl) (by rfl) (by rfl) ?_) | (refine q_blk ?_) | (refine q_skip ?_) | (refine q_ct (by rfl) ?_) | (refine q_cf (by rfl) ?_) | (refine q_not (by rfl) (by rfl) ?_) | (refine q_bn ?_) | (refine q_be ?_) | (refine q_exit ?_) | (refine q_te ?_) | (refine q_ret ?_) | (refine q_tr ?_) | (refine q_br ?_))
    refine q_idx2 (by rfl) (by rfl) (by rfl) e30 s59 (by rfl) (by rfl) (by rfl) (by rfl) hget ?_
    repeat (first | (refine q_tn ?_) | (refine q_nil ?_) | (refine q_seq ?_) | (refine q_reg [] ?_) | (refine q_load (by rfl) (by rfl) (by rfl) (by rfl) (upd_same _ _ _) (by rfl) ?_) | (refine q_val (by rfl) (by rfl) (by rfl) (by rfl) ?_) | (refine q_blk ?_) | (refine q_skip ?_) | (refine q_ct (by rfl) ?_) | (refine q_cf (by rfl) ?_) | (refine q_not (by rfl) (by rfl) ?_) | (refine q_bn ?_) | (refine q_be ?_) | (refine q_exit ?_) | (refine q_te ?_) | (refine q_ret ?_) | (refine q_tr ?_) | (refine q_br ?_))
    refine q_w (by rfl) (by rfl) (by rfl) (by rfl) ?_
    refine AO.alloc (t := 59) rfl z59 ?_
    intro c hc _
    obtain ⟨hne, hc⟩ := upd_none hc
    refine q_store (by rfl) (by rfl) (by rfl) (by rfl) (by rfl) (by rfl) s59 (by rfl) (upd_same _ _ _) (Nat.le_of_ble_eq_true rfl) ?_
    refine q_sig (σ := Wr ⟨upd σ.vars c o.av, σ.tips⟩ b h b0 d0) ?_ ?_
    · show (⟨upd (upd (Wr σ b h b0 d0).vars c z59l) c o.av, (Wr σ b h b0 d0).tips⟩ : Sg) = _
      rw [upd_upd, wr_box hne]
    repeat (first | (refine q_tn ?_) | (refine q_nil ?_) | (refine q_seq ?_) | (refine q_reg [] ?_) | (refine q_load (by rfl) (by rfl) (by rfl) (by rfl) (upd_same _ _ _) (by rfl) ?_) | (refine q_load (by rfl) (by rfl) (by rfl) (by rfl) ((upd_ne _ hne).trans (upd_same _ _ _)) (by rfl) ?_) | (refine q_val (by rfl) (by rfl) (by rfl) (by rfl) ?_) | (refine q_blk ?_) | (refine q_skip ?_) | (refine q_ct (by rfl) ?_) | (refine q_cf (by rfl) ?_) | (refine q_not (by rfl) (by rfl) ?_) | (refine q_bn ?_) | (refine q_be ?_) | (refine q_exit ?_) | (refine q_te ?_) | (refine q_ret ?_) | (refine q_tr ?_) | (refine q_br ?_))
    apply q_wcall (f := 17); exact rfl; exact rfl; exact rfl; exact rfl; exact rfl; exact small_spec ⟨upd σ.vars c o.av, σ.tips⟩ _ _ _ _ hs hF o.kind (by omega); intro h hs hF
    repeat (first | (refine q_tn ?_) | (refine q_nil ?_) | (refine q_seq ?_) | (refine q_reg [] ?_) | (refine q_load (by rfl) (by rfl) (by rfl) (by rfl) (upd_same _ _ _) (by rfl) ?_) | (refine q_load (by rfl) (by rfl) (by rfl) (by rfl) ((upd_ne _ hne).trans (upd_same _ _ _)) (by rfl) ?_) | (refine q_val (by rfl) (by rfl) (by rfl) (by rfl) ?_) | (refine q_blk ?_) | (refine q_skip ?_) | (refine q_ct (by rfl) ?_) | (refine q_cf (by rfl) ?_) | (refine q_not (by rfl) (by rfl) ?_) | (refine q_bn ?_) | (refine q_be ?_) | (refine q_exit ?_) | (refine q_te ?_) | (refine q_ret ?_) | (refine q_tr ?_) | (refine q_br ?_))
    cases e1 : (o.kind == 1)
    case true =>
      repeat (first | (refine q_tn ?_) | (refine q_nil ?_) | (refine q_seq ?_) | (refine q_reg [] ?_) | (refine q_load (by rfl) (by rfl) (by rfl) (by rfl) (upd_same _ _ _) (by rfl) ?_) | (refine q_load (by rfl) (by rfl) (by rfl) (by rfl) ((upd_ne _ hne).trans (upd_same _ _ _)) (by rfl) ?_) | (refine q_val (by rfl) (by rfl) (by rfl) (by rfl) ?_) | (refine q_blk ?_) | (refine q_skip ?_) | (refine q_ct (by rfl) ?_) | (refine q_cf (by rfl) ?_) | (refine q_not (by rfl) (by rfl) ?_) | (refine q_bn ?_) | (refine q_be ?_) | (refine q_exit ?_) | (refine q_te ?_) | (refine q_ret ?_) | (refine q_tr ?_) | (refine q_br ?_))
      apply q_wcall (f := 39); exact rfl; exact rfl; exact rfl; exact rfl; exact rfl; exact query_spec ⟨upd σ.vars c o.av, σ.tips⟩ _ _ _ _ hs hF o.q (by simp; omega); intro h hs hF
      repeat (first | (refine q_tn ?_) | (refine q_nil ?_) | (refine q_seq ?_) | (refine q_reg [] ?_) | (refine q_load (by rfl) (by rfl) (by rfl) (by rfl) (upd_same _ _ _) (by rfl) ?_) | (refine q_val (by rfl) (by rfl) (by rfl) (by rfl) ?_) | (refine q_blk ?_) | (refine q_skip ?_) | (refine q_ct (by rfl) ?_) | (refine q_cf (by rfl) ?_) | (refine q_not (by rfl) (by rfl) ?_) | (refine q_bn ?_) | (refine q_be ?_) | (refine q_exit ?_) | (refine q_te ?_) | (refine q_ret ?_) | (refine q_tr ?_) | (refine q_br ?_))
      refine ⟨j - 1, ⟨44, frL [(0, pt b), (10, .row 20 (L.map Opr.av)), (11, pi L.length), (12, pi (i + 1 : Nat))], Wr σ b h (l ++ ([(L.length : Int) % 256] ++ (L.take (i + 1)).flatMap oB)) (bad || (byteN L.length || (L.take (i + 1)).any oBad))⟩, by omega,
        Sub.mk' rfl ⟨⟨_, rfl, AV.le_refl _⟩, ⟨_, rfl, AV.le_refl _⟩, ⟨_, rfl, AV.le_refl _⟩, ⟨_, rfl, AV.le_of_eq (by rw [wrap_i64 _ (by omega) (by omega)]; rfl)⟩, trivial⟩ (wr_drop hc hne (by rw [htk, ← hb0]; simp [List.flatMap_append, oB, e1]) (by rw [htk]; (try rw [← hd0]); simp [oBad, byteN, e1, Bool.or_assoc])), i + 1, h, by omega, hs, hF, rfl⟩
    case false =>
      repeat (first | (refine q_tn ?_) | (refine q_nil ?_) | (refine q_seq ?_) | (refine q_reg [] ?_) | (refine q_load (by rfl) (by rfl) (by rfl) (by rfl) (upd_same _ _ _) (by rfl) ?_) | (refine q_val (by rfl) (by rfl) (by rfl) (by rfl) ?_) | (refine q_blk ?_) | (refine q_skip ?_) | (refine q_ct (by rfl) ?_) | (refine q_cf (by rfl) ?_) | (refine q_not (by rfl) (by rfl) ?_) | (refine q_bn ?_) | (refine q_be ?_) | (refine q_exit ?_) | (refine q_te ?_) | (refine q_ret ?_) | (refine q_tr ?_) | (refine q_br ?_))
      cases e2 : (o.kind == 2)
      case true =>
        repeat (first | (refine q_tn ?_) | (refine q_nil ?_) | (refine q_seq ?_) | (refine q_reg [] ?_) | (refine q_load (by rfl) (by rfl) (by rfl) (by rfl) (upd_same _ _ _) (by rfl) ?_) | (refine q_load (by rfl) (by rfl) (by rfl) (by rfl) ((upd_ne _ hne).trans (upd_same _ _ _)) (by rfl) ?_) | (refine q_val (by rfl) (by rfl) (by rfl) (by rfl) ?_) | (refine q_blk ?_) | (refine q_skip ?_) | (refine q_ct (by rfl) ?_) | (refine q_cf (by rfl) ?_) | (refine q_not (by rfl) (by rfl) ?_) | (refine q_bn ?_) | (refine q_be ?_) | (refine q_exit ?_) | (refine q_te ?_) | (refine q_ret ?_) | (refine q_tr ?_) | (refine q_br ?_))
        apply q_wcall (f := 40); exact rfl; exact rfl; exact rfl; exact rfl; exact rfl; exact write_spec ⟨upd σ.vars c o.av, σ.tips⟩ _ _ _ _ hs hF o.w (by simp; omega); intro h hs hF
        repeat (first | (refine q_tn ?_) | (refine q_nil ?_) | (refine q_seq ?_) | (refine q_reg [] ?_) | (refine q_load (by rfl) (by rfl) (by rfl) (by rfl) (upd_same _ _ _) (by rfl) ?_) | (refine q_val (by rfl) (by rfl) (by rfl) (by rfl) ?_) | (refine q_blk ?_) | (refine q_skip ?_) | (refine q_ct (by rfl) ?_) | (refine q_cf (by rfl) ?_) | (refine q_not (by rfl) (by rfl) ?_) | (refine q_bn ?_) | (refine q_be ?_) | (refine q_exit ?_) | (refine q_te ?_) | (refine q_ret ?_) | (refine q_tr ?_) | (refine q_br ?_))
        refine ⟨j - 1, ⟨44, frL [(0, pt b), (10, .row 20 (L.map Opr.av)), (11, pi L.length), (12, pi (i + 1 : Nat))], Wr σ b h (l ++ ([(L.length : Int) % 256] ++ (L.take (i + 1)).flatMap oB)) (bad || (byteN L.length || (L.take (i + 1)).any oBad))⟩, by omega,
        Sub.mk' rfl ⟨⟨_, rfl, AV.le_refl _⟩, ⟨_, rfl, AV.le_refl _⟩, ⟨_, rfl, AV.le_refl _⟩, ⟨_, rfl, AV.le_of_eq (by rw [wrap_i64 _ (by omega) (by omega)]; rfl)⟩, trivial⟩ (wr_drop hc hne (by rw [htk, ← hb0]; simp [List.flatMap_append, oB, e1, e2]) (by rw [htk]; (try rw [← hd0]); simp [oBad, byteN, e1, e2, Bool.or_assoc])), i + 1, h, by omega, hs, hF, rfl⟩
      case false =>
        repeat (first | (refine q_tn ?_) | (refine q_nil ?_) | (refine q_seq ?_) | (refine q_reg [] ?_) | (refine q_load (by rfl) (by rfl) (by rfl) (by rfl) (upd_same _ _ _) (by rfl) ?_) | (refine q_val (by rfl) (by rfl) (by rfl) (by rfl) ?_) | (refine q_blk ?_) | (refine q_skip ?_) | (refine q_ct (by rfl) ?_) | (refine q_cf (by rfl) ?_) | (refine q_not (by rfl) (by rfl) ?_) | (refine q_bn ?_) | (refine q_be ?_) | (refine q_exit ?_) | (refine q_te ?_) | (refine q_ret ?_) | (refine q_tr ?_) | (refine q_br ?_))
        cases e3 : (o.kind == 3)
        case true =>
          repeat (first | (refine q_tn ?_) | (refine q_nil ?_) | (refine q_seq ?_) | (refine q_reg [] ?_) | (refine q_load (by rfl) (by rfl) (by rfl) (by rfl) (upd_same _ _ _) (by rfl) ?_) | (refine q_load (by rfl) (by rfl) (by rfl) (by rfl) ((upd_ne _ hne).trans (upd_same _ _ _)) (by rfl) ?_) | (refine q_val (by rfl) (by rfl) (by rfl) (by rfl) ?_) | (refine q_blk ?_) | (refine q_skip ?_) | (refine q_ct (by rfl) ?_) | (refine q_cf (by rfl) ?_) | (refine q_not (by rfl) (by rfl) ?_) | (refine q_bn ?_) | (refine q_be ?_) | (refine q_exit ?_) | (refine q_te ?_) | (refine q_ret ?_) | (refine q_tr ?_) | (refine q_br ?_))
          apply q_wcall (f := 41); exact rfl; exact rfl; exact rfl; exact rfl; exact rfl; exact erase_spec ⟨upd σ.vars c o.av, σ.tips⟩ _ _ _ _ hs hF o.e (by simp; omega); intro h hs hF
          repeat (first | (refine q_tn ?_) | (refine q_nil ?_) | (refine q_seq ?_) | (refine q_reg [] ?_) | (refine q_load (by rfl) (by rfl) (by rfl) (by rfl) (upd_same _ _ _) (by rfl) ?_) | (refine q_val (by rfl) (by rfl) (by rfl) (by rfl) ?_) | (refine q_blk ?_) | (refine q_skip ?_) | (refine q_ct (by rfl) ?_) | (refine q_cf (by rfl) ?_) | (refine q_not (by rfl) (by rfl) ?_) | (refine q_bn ?_) | (refine q_be ?_) | (refine q_exit ?_) | (refine q_te ?_) | (refine q_ret ?_) | (refine q_tr ?_) | (refine q_br ?_))
          refine ⟨j - 1, ⟨44, frL [(0, pt b), (10, .row 20 (L.map Opr.av)), (11, pi L.length), (12, pi (i + 1 : Nat))], Wr σ b h (l ++ ([(L.length : Int) % 256] ++ (L.take (i + 1)).flatMap oB)) (bad || (byteN L.length || (L.take (i + 1)).any oBad))⟩, by omega,
        Sub.mk' rfl ⟨⟨_, rfl, AV.le_refl _⟩, ⟨_, rfl, AV.le_refl _⟩, ⟨_, rfl, AV.le_refl _⟩, ⟨_, rfl, AV.le_of_eq (by rw [wrap_i64 _ (by omega) (by omega)]; rfl)⟩, trivial⟩ (wr_drop hc hne (by rw [htk, ← hb0]; simp [List.flatMap_append, oB, e1, e2, e3]) (by rw [htk]; (try rw [← hd0]); simp [oBad, byteN, e1, e2, e3, Bool.or_assoc])), i + 1, h, by omega, hs, hF, rfl⟩
        case false =>
          repeat (first | (refine q_tn ?_) | (refine q_nil ?_) | (refine q_seq ?_) | (refine q_reg [] ?_) | (refine q_load (by rfl) (by rfl) (by rfl) (by rfl) (upd_same _ _ _) (by rfl) ?_) | (refine q_val (by rfl) (by rfl) (by rfl) (by rfl) ?_) | (refine q_blk ?_) | (refine q_skip ?_) | (refine q_ct (by rfl) ?_) | (refine q_cf (by rfl) ?_) | (refine q_not (by rfl) (by rfl) ?_) | (refine q_bn ?_) | (refine q_be ?_) | (refine q_exit ?_) | (refine q_te ?_) | (refine q_ret ?_) | (refine q_tr ?_) | (refine q_br ?_))
          refine q_store (by rfl) (by rfl) (by rfl) (by rfl) (by rfl) (by rfl) (by rfl) (by rfl) (upd_same _ _ _) (Nat.le_of_ble_eq_true rfl) ?_
          refine q_sig (σ := Wr ⟨upd σ.vars c o.av, σ.tips⟩ b h (b0 ++ [o.kind % 256]) true) ?_ ?_
          · show (⟨upd (upd (upd σ.vars c o.av) b _) b [.own h (byts (b0 ++ [o.kind % 256])), .v (.bool true)], tipSet σ.tips h (b0 ++ [o.kind % 256]).length⟩ : Sg) = _
            rw [upd_upd]; rfl
          repeat (first | (refine q_tn ?_) | (refine q_nil ?_) | (refine q_seq ?_) | (refine q_reg [] ?_) | (refine q_load (by rfl) (by rfl) (by rfl) (by rfl) (upd_same _ _ _) (by rfl) ?_) | (refine q_val (by rfl) (by rfl) (by rfl) (by rfl) ?_) | (refine q_blk ?_) | (refine q_skip ?_) | (refine q_ct (by rfl) ?_) | (refine q_cf (by rfl) ?_) | (refine q_not (by rfl) (by rfl) ?_) | (refine q_bn ?_) | (refine q_be ?_) | (refine q_exit ?_) | (refine q_te ?_) | (refine q_ret ?_) | (refine q_tr ?_) | (refine q_br ?_))
          refine ⟨j - 1, ⟨44, frL [(0, pt b), (10, .row 20 (L.map Opr.av)), (11, pi L.length), (12, pi (i + 1 : Nat))], Wr σ b h (l ++ ([(L.length : Int) % 256] ++ (L.take (i + 1)).flatMap oB)) (bad || (byteN L.length || (L.take (i + 1)).any oBad))⟩, by omega,
        Sub.mk' rfl ⟨⟨_, rfl, AV.le_refl _⟩, ⟨_, rfl, AV.le_refl _⟩, ⟨_, rfl, AV.le_refl _⟩, ⟨_, rfl, AV.le_of_eq (by rw [wrap_i64 _ (by omega) (by omega)]; rfl)⟩, trivial⟩ (wr_drop hc hne (by rw [htk, ← hb0]; simp [List.flatMap_append, oB, e1, e2, e3]) (by rw [htk]; (try rw [← hd0]); simp [oBad, byteN, e1, e2, e3, Bool.or_assoc])), i + 1, h, by omega, hs, hF, rfl⟩
  · intro hge
    have hge : ¬ ((i : Int) < L.length) := of_decide_eq_false hge
    obtain rfl : i = L.length := by omega
    repeat (first | (refine q_tn ?_) | (refine q_nil ?_) | (refine q_seq ?_) | (refine q_reg [] ?_) | (refine q_load (by rfl) (by rfl) (by rfl) (by rfl) (upd_same _ _ _) (by rfl) ?_) | (refine q_val (by rfl) (by rfl) (by rfl) (by rfl) ?_) | (refine q_blk ?_) | (refine q_skip ?_) | (refine q_ct (by rfl) ?_) | (refine q_cf (by rfl) ?_) | (refine q_not (by rfl) (by rfl) ?_) | (refine q_bn ?_) | (refine q_be ?_) | (refine q_exit ?_) | (refine q_te ?_) | (refine q_ret ?_) | (refine q_tr ?_) | (refine q_br ?_))
    exact q_en rfl (AV.le_refl _) (wr_le (by simp [osB]) (by simp [osBad])) ⟨rfl, h, hs, hF, rfl⟩
end
end Go.Ab
