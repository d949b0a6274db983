/- A part of the proof of the seat's rows, said of the kit's own model: codec.Encode and codec.Can. Conditions: as each theorem says. -/
import Derived.Test.YthhhklmdceieaaaCd7
namespace Go.Ab
open Go Go.Proofs
set_option linter.unusedVariables false
set_option linter.unusedSimpArgs false
set_option maxRecDepth 100000
theorem cle2 {x x' y : AV} (h : ∀ m v, V m x v → V m x' v) : CLe [x, y] [x', y] := fun m vs hv => by
  cases hv with
  | cons a b c => exact .cons (h m _ a) b c
theorem SgLe.upd {f : Nat → Option (List AV)} {T : Hdr → Option Nat} {b : Nat} {x y : List AV} (h : CLe x y) : SgLe ⟨Go.Ab.upd f b x, T⟩ ⟨Go.Ab.upd f b y, T⟩ :=
  ⟨fun k c hk => by
    by_cases e : k = b
    · subst e; simp [Go.Ab.upd] at hk; subst hk; exact ⟨x, by simp [Go.Ab.upd], h⟩
    · simp [Go.Ab.upd, e] at hk; exact ⟨c, by simp [Go.Ab.upd, e, hk], .refl _⟩, fun k j hk => .inr hk⟩
def encBad (r : Req) : Bool := byteN r.kind || rBad r
def encBytes (r : Req) : List Int := [r.kind % 256] ++ rB r
def encOK (r : Req) : Bool := !encBad r && spareB r
def encR (r : Req) : AV := if encOK r = true then .tup [.row 1 (byts (encBytes r)), pi 0] else .tup [.row 1 [], pi 4]
theorem Encode_spec (σ : Sg) (r : Req) (h1 : r.ifs.length ≤ 300) (h2 : r.thn.length ≤ 300) (h3 : r.els.length ≤ 300) : ACalls Try.prog 9 [.agg r.av] σ (fun x σ' => x = encR r ∧ σ' = σ) := by
  refine q_body Try.func9 rfl (by kernel_rfl) Try.ntmps9 (Nat.le_of_ble_eq_true rfl) ?_
  repeat (first | (refine q_tn ?_) | (refine q_nil ?_) | (refine q_seq ?_) | (refine q_reg [] ?_) | (refine q_load (by rfl) (by rfl) (by rfl) (by rfl) (upd_same _ _ _) (by rfl) ?_) | (refine q_val (by rfl) (by rfl) (by rfl) (by rfl) ?_) | (refine q_blk ?_) | (refine q_skip ?_) | (refine q_ct (by rfl) ?_) | (refine q_cf (by rfl) ?_) | (refine q_not (by rfl) (by rfl) ?_) | (refine q_bn ?_) | (refine q_be ?_) | (refine q_exit ?_) | (refine q_te ?_) | (refine q_ret ?_) | (refine q_tr ?_) | (refine q_br ?_))
  refine q_w (by rfl) (by rfl) (by rfl) (by rfl) ?_
  refine AO.box (cs := r.av) rfl rfl ?_
  intro c hc hcx
  clear hcx
  repeat (first | (refine q_tn ?_) | (refine q_nil ?_) | (refine q_seq ?_) | (refine q_reg [] ?_) | (refine q_load (by rfl) (by rfl) (by rfl) (by rfl) (upd_same _ _ _) (by rfl) ?_) | (refine q_val (by rfl) (by rfl) (by rfl) (by rfl) ?_) | (refine q_blk ?_) | (refine q_skip ?_) | (refine q_ct (by rfl) ?_) | (refine q_cf (by rfl) ?_) | (refine q_not (by rfl) (by rfl) ?_) | (refine q_bn ?_) | (refine q_be ?_) | (refine q_exit ?_) | (refine q_te ?_) | (refine q_ret ?_) | (refine q_tr ?_) | (refine q_br ?_))
  refine q_w (by rfl) (by rfl) (by rfl) (by rfl) ?_
  refine AO.box (t := 62) (cs := [.v (.slice none 0 0), pb false]) rfl rfl ?_
  intro b hb0 hcx
  clear hcx
  obtain ⟨hne, hb⟩ := upd_none hb0
  refine q_val (by rfl) (by rfl) (by rfl) (by rfl) ?_
  refine q_nil ?_
  refine q_tn ?_
  have dr : ∀ h l bad, Free σ.tips h → SgLe (Wr ⟨upd σ.vars c r.av, σ.tips⟩ b h l bad) σ := fun h l bad hF => (SgLe.tip hF).trans ((SgLe.var hb0).trans (SgLe.var hc))
  clear hb0
  obtain ⟨h, hh⟩ : ∃ h : Hdr, h = ⟨none, 0, 0, 1⟩ := ⟨_, rfl⟩
  refine AW.weak (s' := ⟨27, frL [(1, pt c), (4, pt b)], Wr ⟨upd σ.vars c r.av, σ.tips⟩ b h [] false⟩) ?_ (Sub.mk' rfl ⟨⟨_, rfl, AV.le_refl _⟩, ⟨_, rfl, AV.le_refl _⟩, trivial⟩ ?_)
  case refine_2 =>
    subst hh
    show SgLe ⟨upd (upd σ.vars c r.av) b [.v (.slice none 0 0), pb false], σ.tips⟩ ⟨upd (upd σ.vars c r.av) b [.own ⟨none, 0, 0, 1⟩ [], pb false], tipSet σ.tips ⟨none, 0, 0, 1⟩ 0⟩
    rw [tipSet_none rfl]
    exact SgLe.upd (cle2 AV.le_nil)
  have hs : h.sz = 1 := by rw [hh]
  have hF : Free σ.tips h := by rw [hh]; exact Free.nil
  clear hh hc hb
  repeat (first | (refine q_tn ?_) | (refine q_nil ?_) | (refine q_seq ?_) | (refine q_reg [] ?_) | (refine q_load (by rfl) (by rfl) (by rfl) (by rfl) (upd_same _ _ _) (by rfl) ?_) | (refine q_load (by rfl) (by rfl) (by rfl) (by rfl) (upd2 hne _ _) (by rfl) ?_) | (refine q_val (by rfl) (by rfl) (by rfl) (by rfl) ?_) | (refine q_blk ?_) | (refine q_skip ?_) | (refine q_ct (by rfl) ?_) | (refine q_cf (by rfl) ?_) | (refine q_not (by rfl) (by rfl) ?_) | (refine q_bn ?_) | (refine q_be ?_) | (refine q_exit ?_) | (refine q_te ?_) | (refine q_ret ?_) | (refine q_tr ?_) | (refine q_br ?_))
  apply q_wcall (f := 17); exact rfl; exact rfl; exact rfl; exact rfl; exact rfl; exact small_spec ⟨upd σ.vars c r.av, σ.tips⟩ _ _ _ _ hs hF r.kind (by simp); intro h hs hF
  repeat (first | (refine q_tn ?_) | (refine q_nil ?_) | (refine q_seq ?_) | (refine q_reg [] ?_) | (refine q_load (by rfl) (by rfl) (by rfl) (by rfl) (upd_same _ _ _) (by rfl) ?_) | (refine q_load (by rfl) (by rfl) (by rfl) (by rfl) (upd2 hne _ _) (by rfl) ?_) | (refine q_val (by rfl) (by rfl) (by rfl) (by rfl) ?_) | (refine q_blk ?_) | (refine q_skip ?_) | (refine q_ct (by rfl) ?_) | (refine q_cf (by rfl) ?_) | (refine q_not (by rfl) (by rfl) ?_) | (refine q_bn ?_) | (refine q_be ?_) | (refine q_exit ?_) | (refine q_te ?_) | (refine q_ret ?_) | (refine q_tr ?_) | (refine q_br ?_))
  apply q_wcall (f := 18); exact rfl; exact rfl; exact rfl; exact rfl; exact rfl; exact request_spec ⟨upd σ.vars c r.av, σ.tips⟩ _ _ _ _ hs hF r (by simp) h1 h2 h3; intro h hs hF
  repeat (first | (refine q_tn ?_) | (refine q_nil ?_) | (refine q_seq ?_) | (refine q_reg [] ?_) | (refine q_load (by rfl) (by rfl) (by rfl) (by rfl) (upd_same _ _ _) (by rfl) ?_) | (refine q_load (by rfl) (by rfl) (by rfl) (by rfl) (upd2 hne _ _) (by rfl) ?_) | (refine q_val (by rfl) (by rfl) (by rfl) (by rfl) ?_) | (refine q_blk ?_) | (refine q_skip ?_) | (refine q_ct (by rfl) ?_) | (refine q_cf (by rfl) ?_) | (refine q_not (by rfl) (by rfl) ?_) | (refine q_bn ?_) | (refine q_be ?_) | (refine q_exit ?_) | (refine q_te ?_) | (refine q_ret ?_) | (refine q_tr ?_) | (refine q_br ?_))
  have eb : (false || decide (r.kind < 0) || decide (r.kind > 255) || rBad r) = encBad r := by simp [encBad, byteN]
  rw [eb]
  cases hbad : encBad r
  · repeat (first | (refine q_tn ?_) | (refine q_nil ?_) | (refine q_seq ?_) | (refine q_reg [] ?_) | (refine q_load (by rfl) (by rfl) (by rfl) (by rfl) (upd_same _ _ _) (by rfl) ?_) | (refine q_load (by rfl) (by rfl) (by rfl) (by rfl) (upd2 hne _ _) (by rfl) ?_) | (refine q_val (by rfl) (by rfl) (by rfl) (by rfl) ?_) | (refine q_blk ?_) | (refine q_skip ?_) | (refine q_ct (by rfl) ?_) | (refine q_cf (by rfl) ?_) | (refine q_not (by rfl) (by rfl) ?_) | (refine q_bn ?_) | (refine q_be ?_) | (refine q_exit ?_) | (refine q_te ?_) | (refine q_ret ?_) | (refine q_tr ?_) | (refine q_br ?_))
    refine q_call (f := 19) (by rfl) (by rfl) (by rfl) (by rfl) ((spare_spec _ r h2 h3).mono ?_)
    rintro _ _ ⟨rfl, rfl⟩
    repeat (first | (refine q_tn ?_) | (refine q_nil ?_) | (refine q_seq ?_) | (refine q_reg [] ?_) | (refine q_load (by rfl) (by rfl) (by rfl) (by rfl) (upd_same _ _ _) (by rfl) ?_) | (refine q_val (by rfl) (by rfl) (by rfl) (by rfl) ?_) | (refine q_blk ?_) | (refine q_skip ?_) | (refine q_ct (by rfl) ?_) | (refine q_cf (by rfl) ?_) | (refine q_not (by rfl) (by rfl) ?_) | (refine q_bn ?_) | (refine q_be ?_) | (refine q_exit ?_) | (refine q_te ?_) | (refine q_ret ?_) | (refine q_tr ?_) | (refine q_br ?_))
    cases hsp : spareB r
    · repeat (first | (refine q_tn ?_) | (refine q_nil ?_) | (refine q_seq ?_) | (refine q_reg [] ?_) | (refine q_load (by rfl) (by rfl) (by rfl) (by rfl) (upd_same _ _ _) (by rfl) ?_) | (refine q_val (by rfl) (by rfl) (by rfl) (by rfl) ?_) | (refine q_blk ?_) | (refine q_skip ?_) | (refine q_ct (by rfl) ?_) | (refine q_cf (by rfl) ?_) | (refine q_not (by rfl) (by rfl) ?_) | (refine q_bn ?_) | (refine q_be ?_) | (refine q_exit ?_) | (refine q_te ?_) | (refine q_ret ?_) | (refine q_tr ?_) | (refine q_br ?_))
      exact q_er rfl (tup_le2 (AV.le_nilRow (sz := 1)) (AV.le_refl _)) (dr _ _ _ hF) ⟨by simp [encR, encOK, hbad, hsp], rfl⟩
    · repeat (first | (refine q_tn ?_) | (refine q_nil ?_) | (refine q_seq ?_) | (refine q_reg [] ?_) | (refine q_load (by rfl) (by rfl) (by rfl) (by rfl) (upd_same _ _ _) (by rfl) ?_) | (refine q_val (by rfl) (by rfl) (by rfl) (by rfl) ?_) | (refine q_blk ?_) | (refine q_skip ?_) | (refine q_ct (by rfl) ?_) | (refine q_cf (by rfl) ?_) | (refine q_not (by rfl) (by rfl) ?_) | (refine q_bn ?_) | (refine q_be ?_) | (refine q_exit ?_) | (refine q_te ?_) | (refine q_ret ?_) | (refine q_tr ?_) | (refine q_br ?_))
      exact q_er rfl (tup_le2 (own_le' hs : AV.le _ (.row 1 _)) (AV.le_refl _)) (dr _ _ _ hF) ⟨by simp [encR, encOK, hbad, hsp, encBytes], rfl⟩
  · repeat (first | (refine q_tn ?_) | (refine q_nil ?_) | (refine q_seq ?_) | (refine q_reg [] ?_) | (refine q_load (by rfl) (by rfl) (by rfl) (by rfl) (upd_same _ _ _) (by rfl) ?_) | (refine q_val (by rfl) (by rfl) (by rfl) (by rfl) ?_) | (refine q_blk ?_) | (refine q_skip ?_) | (refine q_ct (by rfl) ?_) | (refine q_cf (by rfl) ?_) | (refine q_not (by rfl) (by rfl) ?_) | (refine q_bn ?_) | (refine q_be ?_) | (refine q_exit ?_) | (refine q_te ?_) | (refine q_ret ?_) | (refine q_tr ?_) | (refine q_br ?_))
    exact q_er rfl (tup_le2 (AV.le_nilRow (sz := 1)) (AV.le_refl _)) (dr _ _ _ hF) ⟨by simp [encR, encOK, hbad], rfl⟩
theorem Can_spec (σ : Sg) (r : Req) (h1 : r.ifs.length ≤ 300) (h2 : r.thn.length ≤ 300) (h3 : r.els.length ≤ 300) : ACalls Try.prog 11 [.agg r.av] σ (fun x σ' => x = pb (encOK r) ∧ σ' = σ) := by
  refine q_body Try.func11 rfl (by kernel_rfl) Try.ntmps11 (Nat.le_of_ble_eq_true rfl) ?_
  repeat (first | (refine q_tn ?_) | (refine q_nil ?_) | (refine q_seq ?_) | (refine q_reg [] ?_) | (refine q_load (by rfl) (by rfl) (by rfl) (by rfl) (upd_same _ _ _) (by rfl) ?_) | (refine q_val (by rfl) (by rfl) (by rfl) (by rfl) ?_) | (refine q_blk ?_) | (refine q_skip ?_) | (refine q_ct (by rfl) ?_) | (refine q_cf (by rfl) ?_) | (refine q_not (by rfl) (by rfl) ?_) | (refine q_bn ?_) | (refine q_be ?_) | (refine q_exit ?_) | (refine q_te ?_) | (refine q_ret ?_) | (refine q_tr ?_) | (refine q_br ?_))
  refine q_w (by rfl) (by rfl) (by rfl) (by rfl) ?_
  refine AO.box (cs := r.av) rfl rfl ?_
  intro c hc hcx
  repeat (first | (refine q_tn ?_) | (refine q_nil ?_) | (refine q_seq ?_) | (refine q_reg [] ?_) | (refine q_load (by rfl) (by rfl) (by rfl) (by rfl) (upd_same _ _ _) (by rfl) ?_) | (refine q_val (by rfl) (by rfl) (by rfl) (by rfl) ?_) | (refine q_blk ?_) | (refine q_skip ?_) | (refine q_ct (by rfl) ?_) | (refine q_cf (by rfl) ?_) | (refine q_not (by rfl) (by rfl) ?_) | (refine q_bn ?_) | (refine q_be ?_) | (refine q_exit ?_) | (refine q_te ?_) | (refine q_ret ?_) | (refine q_tr ?_) | (refine q_br ?_))
  refine q_call (f := 9) (by rfl) (by rfl) (by rfl) (by rfl) ((Encode_spec _ r h1 h2 h3).mono ?_)
  rintro _ _ ⟨rfl, rfl⟩
  unfold encR
  cases hk : encOK r
  · rw [if_neg (by decide)]
    repeat (first | (refine q_tn ?_) | (refine q_nil ?_) | (refine q_seq ?_) | (refine q_reg [] ?_) | (refine q_load (by rfl) (by rfl) (by rfl) (by rfl) (upd_same _ _ _) (by rfl) ?_) | (refine q_val (by rfl) (by rfl) (by rfl) (by rfl) ?_) | (refine q_blk ?_) | (refine q_skip ?_) | (refine q_ct (by rfl) ?_) | (refine q_cf (by rfl) ?_) | (refine q_not (by rfl) (by rfl) ?_) | (refine q_bn ?_) | (refine q_be ?_) | (refine q_exit ?_) | (refine q_te ?_) | (refine q_ret ?_) | (refine q_tr ?_) | (refine q_br ?_))
    exact q_er rfl (AV.le_refl _) (SgLe.var hc) ⟨rfl, rfl⟩
  · rw [if_pos rfl]
    repeat (first | (refine q_tn ?_) | (refine q_nil ?_) | (refine q_seq ?_) | (refine q_reg [] ?_) | (refine q_load (by rfl) (by rfl) (by rfl) (by rfl) (upd_same _ _ _) (by rfl) ?_) | (refine q_val (by rfl) (by rfl) (by rfl) (by rfl) ?_) | (refine q_blk ?_) | (refine q_skip ?_) | (refine q_ct (by rfl) ?_) | (refine q_cf (by rfl) ?_) | (refine q_not (by rfl) (by rfl) ?_) | (refine q_bn ?_) | (refine q_be ?_) | (refine q_exit ?_) | (refine q_te ?_) | (refine q_ret ?_) | (refine q_tr ?_) | (refine q_br ?_))
    exact q_er rfl (AV.le_refl _) (SgLe.var hc) ⟨rfl, rfl⟩
end Go.Ab
