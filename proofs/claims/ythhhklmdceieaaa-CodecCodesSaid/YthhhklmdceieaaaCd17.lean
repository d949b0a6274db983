/- A part of the proof of the seat's rows, said of the kit's own model: the law CodecCodes answers true. Conditions: as each theorem says. -/
import Derived.Test.YthhhklmdceieaaaCd16
namespace Go.Ab
open Go Go.Proofs
set_option linter.unusedVariables false
set_option linter.unusedSimpArgs false
set_option maxRecDepth 100000
def r5 : Req := ⟨5, q0, w0, e0, [], [], [], ⟨[], [], 0, false, false, false⟩, 5, 0, 0⟩
def z36l : List AV := [pi 5] ++ z24l ++ z26l ++ z28l ++ z32l ++ z34l ++ [pi 5, pi 0, pi 0]
theorem b36 (s : St) : vop Try.prog s (.build 36 #[(0, .const (.int .i64 5)), (6, .const (.int .i64 5))]) = some (.agg z36l) := by kernel_rfl
theorem zr : (AV.agg z36l).le (.agg r5.av) :=
  AV.le_agg (.cons (AV.le_refl _) (.cons AV.le_nilRow (.cons AV.le_nilRow (.cons (AV.le_refl _) (.cons (AV.le_refl _) (.cons (AV.le_refl _) (.cons (AV.le_refl _) (.cons (AV.le_refl _) (.cons (AV.le_refl _) (.cons (AV.le_refl _) (.cons (AV.le_refl _) (.cons (AV.le_refl _) (.cons (AV.le_refl _)
    (.cons AV.le_nilRow (.cons AV.le_nilRow (.cons (AV.le_refl _) (.cons (AV.le_refl _) (.cons AV.le_nilRow (.cons AV.le_nilRow (.cons (AV.le_refl _) (.cons AV.le_nilRow (.cons AV.le_nilRow (.cons AV.le_nilRow (.cons AV.le_nilRow (.cons AV.le_nilRow (.refl _))))))))))))))))))))))))))
theorem encR5 : encR r5 = .tup [.row 1 (byts [5, 0, 0, 0, 0, 0, 0, 0, 5]), pi 0] := by
  unfold encR
  rw [if_pos (by decide), show encBytes r5 = [5, 0, 0, 0, 0, 0, 0, 0, 5] by decide]
theorem lives_spec (σ : Sg) : ACalls Try.prog 7 [] σ (fun x σ' => x = pb true ∧ σ' = σ) := by
  refine q_body Try.func7 rfl (by kernel_rfl) Try.ntmps7 (Nat.le_of_ble_eq_true rfl) ?_
  repeat (first | (refine q_tn ?_) | (refine q_nil ?_) | (refine q_seq ?_) | (refine q_reg [] ?_) | (refine q_load (by rfl) (by rfl) (by rfl) (by rfl) (upd_same _ _ _) (by rfl) ?_) | (refine q_valN (by rfl) (by rfl) (by rfl) (by rfl) (by rfl) ?_) | (refine q_blk ?_) | (refine q_skip ?_) | (refine q_ct (by rfl) ?_) | (refine q_cf (by rfl) ?_) | (refine q_not (by rfl) (by rfl) ?_) | (refine q_bn ?_) | (refine q_be ?_) | (refine q_exit ?_) | (refine q_te ?_) | (refine q_ret ?_) | (refine q_tr ?_) | (refine q_br ?_))
  refine q_val (v := .agg z36l) (by rfl) (by rfl) (b36 _) (by rfl) ?_
  refine q_call (f := 9) (by rfl) (by rfl) (by rfl) (by rfl) (((Encode_spec _ r5 (by decide) (by decide) (by decide)).arg zr).mono ?_); rintro _ _ ⟨rfl, rfl⟩
  rw [encR5]
  repeat (first | (refine q_tn ?_) | (refine q_nil ?_) | (refine q_seq ?_) | (refine q_reg [] ?_) | (refine q_load (by rfl) (by rfl) (by rfl) (by rfl) (upd_same _ _ _) (by rfl) ?_) | (refine q_val (by rfl) (by rfl) (by rfl) (by rfl) ?_) | (refine q_blk ?_) | (refine q_skip ?_) | (refine q_ct (by rfl) ?_) | (refine q_cf (by rfl) ?_) | (refine q_not (by rfl) (by rfl) ?_) | (refine q_bn ?_) | (refine q_be ?_) | (refine q_exit ?_) | (refine q_te ?_) | (refine q_ret ?_) | (refine q_tr ?_) | (refine q_br ?_))
  exact q_er rfl (AV.le_refl _) (SgLe.refl _) ⟨rfl, rfl⟩
set_option maxHeartbeats 4000000 in
theorem CodecCodes_spec (σ : Sg) (r : Req) (g : r.good) : ACalls Try.prog 3 [.agg r.av] σ (fun x _ => x = pb true) := by
  refine q_body Try.func3 rfl (by kernel_rfl) Try.ntmps3 (Nat.le_of_ble_eq_true rfl) ?_
  repeat (first | (refine q_tn ?_) | (refine q_nil ?_) | (refine q_seq ?_) | (refine q_reg [] ?_) | (refine q_load (by rfl) (by rfl) (by rfl) (by rfl) (upd_same _ _ _) (by rfl) ?_) | (refine q_val (by rfl) (by rfl) (by rfl) (by rfl) ?_) | (refine q_blk ?_) | (refine q_skip ?_) | (refine q_ct (by rfl) ?_) | (refine q_cf (by rfl) ?_) | (refine q_not (by rfl) (by rfl) ?_) | (refine q_bn ?_) | (refine q_be ?_) | (refine q_exit ?_) | (refine q_te ?_) | (refine q_ret ?_) | (refine q_tr ?_) | (refine q_br ?_))
  refine q_w (by rfl) (by rfl) (by rfl) (by rfl) ?_
  refine AO.box (cs := r.av) rfl rfl ?_
  intro c hc hcx
  clear hcx
  repeat (first | (refine q_tn ?_) | (refine q_nil ?_) | (refine q_seq ?_) | (refine q_reg [] ?_) | (refine q_load (by rfl) (by rfl) (by rfl) (by rfl) (upd_same _ _ _) (by rfl) ?_) | (refine q_val (by rfl) (by rfl) (by rfl) (by rfl) ?_) | (refine q_blk ?_) | (refine q_skip ?_) | (refine q_ct (by rfl) ?_) | (refine q_cf (by rfl) ?_) | (refine q_not (by rfl) (by rfl) ?_) | (refine q_bn ?_) | (refine q_be ?_) | (refine q_exit ?_) | (refine q_te ?_) | (refine q_ret ?_) | (refine q_tr ?_) | (refine q_br ?_))
  refine q_call (f := 7) (by rfl) (by rfl) (by rfl) (by rfl) ((lives_spec _).mono ?_); rintro _ _ ⟨rfl, rfl⟩
  repeat (first | (refine q_tn ?_) | (refine q_nil ?_) | (refine q_seq ?_) | (refine q_reg [] ?_) | (refine q_load (by rfl) (by rfl) (by rfl) (by rfl) (upd_same _ _ _) (by rfl) ?_) | (refine q_val (by rfl) (by rfl) (by rfl) (by rfl) ?_) | (refine q_blk ?_) | (refine q_skip ?_) | (refine q_ct (by rfl) ?_) | (refine q_cf (by rfl) ?_) | (refine q_not (by rfl) (by rfl) ?_) | (refine q_bn ?_) | (refine q_be ?_) | (refine q_exit ?_) | (refine q_te ?_) | (refine q_ret ?_) | (refine q_tr ?_) | (refine q_br ?_))
  refine q_call (f := 8) (by rfl) (by rfl) (by rfl) (by rfl) ((few_spec _ r).mono ?_)
  rintro _ _ ⟨⟨v, rfl, hv⟩, rfl⟩
  cases v
  case false =>
    repeat (first | (refine q_tn ?_) | (refine q_nil ?_) | (refine q_seq ?_) | (refine q_reg [] ?_) | (refine q_load (by rfl) (by rfl) (by rfl) (by rfl) (upd_same _ _ _) (by rfl) ?_) | (refine q_val (by rfl) (by rfl) (by rfl) (by rfl) ?_) | (refine q_blk ?_) | (refine q_skip ?_) | (refine q_ct (by rfl) ?_) | (refine q_cf (by rfl) ?_) | (refine q_not (by rfl) (by rfl) ?_) | (refine q_bn ?_) | (refine q_be ?_) | (refine q_exit ?_) | (refine q_te ?_) | (refine q_ret ?_) | (refine q_tr ?_) | (refine q_br ?_))
    refine q_call (f := 7) (by rfl) (by rfl) (by rfl) (by rfl) ((lives_spec _).mono ?_); rintro _ _ ⟨rfl, rfl⟩
    repeat (first | (refine q_tn ?_) | (refine q_nil ?_) | (refine q_seq ?_) | (refine q_reg [] ?_) | (refine q_load (by rfl) (by rfl) (by rfl) (by rfl) (upd_same _ _ _) (by rfl) ?_) | (refine q_val (by rfl) (by rfl) (by rfl) (by rfl) ?_) | (refine q_blk ?_) | (refine q_skip ?_) | (refine q_ct (by rfl) ?_) | (refine q_cf (by rfl) ?_) | (refine q_not (by rfl) (by rfl) ?_) | (refine q_bn ?_) | (refine q_be ?_) | (refine q_exit ?_) | (refine q_te ?_) | (refine q_ret ?_) | (refine q_tr ?_) | (refine q_br ?_))
    exact q_er rfl (AV.le_refl _) (SgLe.var hc) rfl
  case true =>
    obtain ⟨h1, h2, h3⟩ := hv rfl
    repeat (first | (refine q_tn ?_) | (refine q_nil ?_) | (refine q_seq ?_) | (refine q_reg [] ?_) | (refine q_load (by rfl) (by rfl) (by rfl) (by rfl) (upd_same _ _ _) (by rfl) ?_) | (refine q_val (by rfl) (by rfl) (by rfl) (by rfl) ?_) | (refine q_blk ?_) | (refine q_skip ?_) | (refine q_ct (by rfl) ?_) | (refine q_cf (by rfl) ?_) | (refine q_not (by rfl) (by rfl) ?_) | (refine q_bn ?_) | (refine q_be ?_) | (refine q_exit ?_) | (refine q_te ?_) | (refine q_ret ?_) | (refine q_tr ?_) | (refine q_br ?_))
    refine q_call (f := 9) (by rfl) (by rfl) (by rfl) (by rfl) ((Encode_spec _ r h1 h2 h3).mono ?_); rintro _ _ ⟨rfl, rfl⟩
    have hr := ref_eq g
    unfold encR
    cases hk : encOK r
    case false =>
      rw [if_neg (by decide)]
      repeat (first | (refine q_tn ?_) | (refine q_nil ?_) | (refine q_seq ?_) | (refine q_reg [] ?_) | (refine q_load (by rfl) (by rfl) (by rfl) (by rfl) (upd_same _ _ _) (by rfl) ?_) | (refine q_val (by rfl) (by rfl) (by rfl) (by rfl) ?_) | (refine q_blk ?_) | (refine q_skip ?_) | (refine q_ct (by rfl) ?_) | (refine q_cf (by rfl) ?_) | (refine q_not (by rfl) (by rfl) ?_) | (refine q_bn ?_) | (refine q_be ?_) | (refine q_exit ?_) | (refine q_te ?_) | (refine q_ret ?_) | (refine q_tr ?_) | (refine q_br ?_))
      refine q_call (f := 10) (by rfl) (by rfl) (by rfl) (by rfl) ((rEncode_spec _ r).mono ?_)
      rintro _ _ ⟨⟨l, rfl, hl⟩, rfl⟩
      rw [hr, hk]
      repeat (first | (refine q_tn ?_) | (refine q_nil ?_) | (refine q_seq ?_) | (refine q_reg [] ?_) | (refine q_load (by rfl) (by rfl) (by rfl) (by rfl) (upd_same _ _ _) (by rfl) ?_) | (refine q_val (by rfl) (by rfl) (by rfl) (by rfl) ?_) | (refine q_blk ?_) | (refine q_skip ?_) | (refine q_ct (by rfl) ?_) | (refine q_cf (by rfl) ?_) | (refine q_not (by rfl) (by rfl) ?_) | (refine q_bn ?_) | (refine q_be ?_) | (refine q_exit ?_) | (refine q_te ?_) | (refine q_ret ?_) | (refine q_tr ?_) | (refine q_br ?_))
      refine q_call (f := 11) (by rfl) (by rfl) (by rfl) (by rfl) ((Can_spec _ r h1 h2 h3).mono ?_); rintro _ _ ⟨rfl, rfl⟩
      rw [hk]
      repeat (first | (refine q_tn ?_) | (refine q_nil ?_) | (refine q_seq ?_) | (refine q_reg [] ?_) | (refine q_load (by rfl) (by rfl) (by rfl) (by rfl) (upd_same _ _ _) (by rfl) ?_) | (refine q_val (by rfl) (by rfl) (by rfl) (by rfl) ?_) | (refine q_blk ?_) | (refine q_skip ?_) | (refine q_ct (by rfl) ?_) | (refine q_cf (by rfl) ?_) | (refine q_not (by rfl) (by rfl) ?_) | (refine q_bn ?_) | (refine q_be ?_) | (refine q_exit ?_) | (refine q_te ?_) | (refine q_ret ?_) | (refine q_tr ?_) | (refine q_br ?_))
      exact q_er rfl (AV.le_refl _) (SgLe.var hc) rfl
    case true =>
      rw [if_pos rfl]
      repeat (first | (refine q_tn ?_) | (refine q_nil ?_) | (refine q_seq ?_) | (refine q_reg [] ?_) | (refine q_load (by rfl) (by rfl) (by rfl) (by rfl) (upd_same _ _ _) (by rfl) ?_) | (refine q_val (by rfl) (by rfl) (by rfl) (by rfl) ?_) | (refine q_blk ?_) | (refine q_skip ?_) | (refine q_ct (by rfl) ?_) | (refine q_cf (by rfl) ?_) | (refine q_not (by rfl) (by rfl) ?_) | (refine q_bn ?_) | (refine q_be ?_) | (refine q_exit ?_) | (refine q_te ?_) | (refine q_ret ?_) | (refine q_tr ?_) | (refine q_br ?_))
      refine q_call (f := 10) (by rfl) (by rfl) (by rfl) (by rfl) ((rEncode_spec _ r).mono ?_)
      rintro _ _ ⟨⟨l, rfl, hl⟩, rfl⟩
      rw [hr, hk] at hl
      rw [hr, hk, hl rfl]
      repeat (first | (refine q_tn ?_) | (refine q_nil ?_) | (refine q_seq ?_) | (refine q_reg [] ?_) | (refine q_load (by rfl) (by rfl) (by rfl) (by rfl) (upd_same _ _ _) (by rfl) ?_) | (refine q_val (by rfl) (by rfl) (by rfl) (by rfl) ?_) | (refine q_blk ?_) | (refine q_skip ?_) | (refine q_ct (by rfl) ?_) | (refine q_cf (by rfl) ?_) | (refine q_not (by rfl) (by rfl) ?_) | (refine q_bn ?_) | (refine q_be ?_) | (refine q_exit ?_) | (refine q_te ?_) | (refine q_ret ?_) | (refine q_tr ?_) | (refine q_br ?_))
      refine q_call (f := 11) (by rfl) (by rfl) (by rfl) (by rfl) ((Can_spec _ r h1 h2 h3).mono ?_); rintro _ _ ⟨rfl, rfl⟩
      rw [hk]
      repeat (first | (refine q_tn ?_) | (refine q_nil ?_) | (refine q_seq ?_) | (refine q_reg [] ?_) | (refine q_load (by rfl) (by rfl) (by rfl) (by rfl) (upd_same _ _ _) (by rfl) ?_) | (refine q_val (by rfl) (by rfl) (by rfl) (by rfl) ?_) | (refine q_blk ?_) | (refine q_skip ?_) | (refine q_ct (by rfl) ?_) | (refine q_cf (by rfl) ?_) | (refine q_not (by rfl) (by rfl) ?_) | (refine q_bn ?_) | (refine q_be ?_) | (refine q_exit ?_) | (refine q_te ?_) | (refine q_ret ?_) | (refine q_tr ?_) | (refine q_br ?_))
      refine q_call (f := 12) (by rfl) (by rfl) (by rfl) (by rfl) ((same_spec _ (encBytes r) (encBytes r)).mono ?_); rintro _ _ ⟨rfl, rfl⟩
      rw [sB_refl]
      repeat (first | (refine q_tn ?_) | (refine q_nil ?_) | (refine q_seq ?_) | (refine q_reg [] ?_) | (refine q_load (by rfl) (by rfl) (by rfl) (by rfl) (upd_same _ _ _) (by rfl) ?_) | (refine q_val (by rfl) (by rfl) (by rfl) (by rfl) ?_) | (refine q_blk ?_) | (refine q_skip ?_) | (refine q_ct (by rfl) ?_) | (refine q_cf (by rfl) ?_) | (refine q_not (by rfl) (by rfl) ?_) | (refine q_bn ?_) | (refine q_be ?_) | (refine q_exit ?_) | (refine q_te ?_) | (refine q_ret ?_) | (refine q_tr ?_) | (refine q_br ?_))
      exact q_er rfl (AV.le_refl _) (SgLe.var hc) rfl
end Go.Ab
