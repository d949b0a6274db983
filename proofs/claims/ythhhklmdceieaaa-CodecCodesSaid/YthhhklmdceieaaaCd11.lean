/- A part of the proof of the seat's rows, said of the kit's own model: the test of size that the laws make. Conditions: as each theorem says. -/
import Derived.Test.YthhhklmdceieaaaCd8
import Derived.Test.YthhhklmdceieaaaCd10
namespace Go.Ab
open Go Go.Proofs
set_option linter.unusedVariables false
set_option linter.unusedSimpArgs false
set_option maxRecDepth 100000
def z32l : List AV := [.v (.slice none 0 0), .v (.slice none 0 0), .v (.slice none 0 0)]
theorem z32 : zeroT Try.prog 32 = some z32l := by kernel_rfl
theorem s32 : sizeT Try.prog 32 = some 3 := by kernel_rfl
def mulc (r : Req) : List AV := [.row 5 (r.ifs.map Tst.av), .row 20 (r.thn.map Opr.av), .row 20 (r.els.map Opr.av)]
set_option maxHeartbeats 4000000 in
theorem few_spec (σ : Sg) (r : Req) : ACalls Try.prog 8 [.agg r.av] σ (fun x σ' => (∃ v, x = pb v ∧ (v = true → r.ifs.length ≤ 300 ∧ r.thn.length ≤ 300 ∧ r.els.length ≤ 300)) ∧ σ' = σ) := by
  refine q_body Try.func8 rfl (by kernel_rfl) Try.ntmps8 (Nat.le_of_ble_eq_true rfl) ?_
  repeat (first | (refine q_tn ?_) | (refine q_nil ?_) | (refine q_seq ?_) | (refine q_reg [] ?_) | (refine q_load (by rfl) (by rfl) (by rfl) (by rfl) (upd_same _ _ _) (by rfl) ?_) | (refine q_val (by rfl) (by rfl) (by rfl) (by rfl) ?_) | (refine q_blk ?_) | (refine q_skip ?_) | (refine q_ct (by rfl) ?_) | (refine q_cf (by rfl) ?_) | (refine q_not (by rfl) (by rfl) ?_) | (refine q_bn ?_) | (refine q_be ?_) | (refine q_exit ?_) | (refine q_te ?_) | (refine q_ret ?_) | (refine q_tr ?_) | (refine q_br ?_))
  refine q_w (by rfl) (by rfl) (by rfl) (by rfl) ?_
  refine AO.box (cs := r.av) rfl rfl ?_
  intro c hc hcx
  clear hcx
  repeat (first | (refine q_tn ?_) | (refine q_nil ?_) | (refine q_seq ?_) | (refine q_reg [] ?_) | (refine q_load (by rfl) (by rfl) (by rfl) (by rfl) (upd_same _ _ _) (by rfl) ?_) | (refine q_val (by rfl) (by rfl) (by rfl) (by rfl) ?_) | (refine q_blk ?_) | (refine q_skip ?_) | (refine q_ct (by rfl) ?_) | (refine q_cf (by rfl) ?_) | (refine q_not (by rfl) (by rfl) ?_) | (refine q_bn ?_) | (refine q_be ?_) | (refine q_exit ?_) | (refine q_te ?_) | (refine q_ret ?_) | (refine q_tr ?_) | (refine q_br ?_))
  refine q_w (by rfl) (by rfl) (by rfl) (by rfl) ?_
  refine AO.alloc (t := 32) rfl z32 ?_
  intro c3 hc3 _
  have hout : SgLe ⟨upd (upd σ.vars c r.av) c3 (mulc r), σ.tips⟩ σ := (SgLe.var hc3).trans (SgLe.var hc)
  obtain ⟨hne, hc3⟩ := upd_none hc3
  refine q_store (by rfl) (by rfl) (by rfl) (by rfl) (by rfl) (by rfl) s32 (by rfl) (upd_same _ _ _) (Nat.le_of_ble_eq_true rfl) ?_
  refine q_sig (σ := ⟨upd (upd σ.vars c r.av) c3 (mulc r), σ.tips⟩) ?_ ?_
  · show (⟨upd (upd (upd σ.vars c r.av) c3 z32l) c3 (mulc r), σ.tips⟩ : Sg) = _
    rw [upd_upd]
  repeat (first | (refine q_tn ?_) | (refine q_nil ?_) | (refine q_seq ?_) | (refine q_reg [] ?_) | (refine q_load (by rfl) (by rfl) (by rfl) (by rfl) (upd_same _ _ _) (by rfl) ?_) | (refine q_load (by rfl) (by rfl) (by rfl) (by rfl) (upd2 hne _ _) (by rfl) ?_) | (refine q_val (by rfl) (by rfl) (by rfl) (by rfl) ?_) | (refine q_blk ?_) | (refine q_skip ?_) | (refine q_ct (by rfl) ?_) | (refine q_cf (by rfl) ?_) | (refine q_not (by rfl) (by rfl) ?_) | (refine q_bn ?_) | (refine q_be ?_) | (refine q_exit ?_) | (refine q_te ?_) | (refine q_ret ?_) | (refine q_tr ?_) | (refine q_br ?_))
  cases e1 : decide (((r.ifs.map Tst.av).length : Int) > 300)
  case true =>
    repeat (first | (refine q_tn ?_) | (refine q_nil ?_) | (refine q_seq ?_) | (refine q_reg [] ?_) | (refine q_load (by rfl) (by rfl) (by rfl) (by rfl) (upd_same _ _ _) (by rfl) ?_) | (refine q_load (by rfl) (by rfl) (by rfl) (by rfl) (upd2 hne _ _) (by rfl) ?_) | (refine q_val (by rfl) (by rfl) (by rfl) (by rfl) ?_) | (refine q_blk ?_) | (refine q_skip ?_) | (refine q_ct (by rfl) ?_) | (refine q_cf (by rfl) ?_) | (refine q_not (by rfl) (by rfl) ?_) | (refine q_bn ?_) | (refine q_be ?_) | (refine q_exit ?_) | (refine q_te ?_) | (refine q_ret ?_) | (refine q_tr ?_) | (refine q_br ?_))
    exact q_er rfl (AV.le_refl _) hout ⟨⟨false, rfl, fun e => Bool.noConfusion e⟩, rfl⟩
  repeat (first | (refine q_tn ?_) | (refine q_nil ?_) | (refine q_seq ?_) | (refine q_reg [] ?_) | (refine q_load (by rfl) (by rfl) (by rfl) (by rfl) (upd_same _ _ _) (by rfl) ?_) | (refine q_load (by rfl) (by rfl) (by rfl) (by rfl) (upd2 hne _ _) (by rfl) ?_) | (refine q_val (by rfl) (by rfl) (by rfl) (by rfl) ?_) | (refine q_blk ?_) | (refine q_skip ?_) | (refine q_ct (by rfl) ?_) | (refine q_cf (by rfl) ?_) | (refine q_not (by rfl) (by rfl) ?_) | (refine q_bn ?_) | (refine q_be ?_) | (refine q_exit ?_) | (refine q_te ?_) | (refine q_ret ?_) | (refine q_tr ?_) | (refine q_br ?_))
  cases e2 : decide (((r.thn.map Opr.av).length : Int) > 300)
  case true =>
    repeat (first | (refine q_tn ?_) | (refine q_nil ?_) | (refine q_seq ?_) | (refine q_reg [] ?_) | (refine q_load (by rfl) (by rfl) (by rfl) (by rfl) (upd_same _ _ _) (by rfl) ?_) | (refine q_load (by rfl) (by rfl) (by rfl) (by rfl) (upd2 hne _ _) (by rfl) ?_) | (refine q_val (by rfl) (by rfl) (by rfl) (by rfl) ?_) | (refine q_blk ?_) | (refine q_skip ?_) | (refine q_ct (by rfl) ?_) | (refine q_cf (by rfl) ?_) | (refine q_not (by rfl) (by rfl) ?_) | (refine q_bn ?_) | (refine q_be ?_) | (refine q_exit ?_) | (refine q_te ?_) | (refine q_ret ?_) | (refine q_tr ?_) | (refine q_br ?_))
    exact q_er rfl (AV.le_refl _) hout ⟨⟨false, rfl, fun e => Bool.noConfusion e⟩, rfl⟩
  repeat (first | (refine q_tn ?_) | (refine q_nil ?_) | (refine q_seq ?_) | (refine q_reg [] ?_) | (refine q_load (by rfl) (by rfl) (by rfl) (by rfl) (upd_same _ _ _) (by rfl) ?_) | (refine q_load (by rfl) (by rfl) (by rfl) (by rfl) (upd2 hne _ _) (by rfl) ?_) | (refine q_val (by rfl) (by rfl) (by rfl) (by rfl) ?_) | (refine q_blk ?_) | (refine q_skip ?_) | (refine q_ct (by rfl) ?_) | (refine q_cf (by rfl) ?_) | (refine q_not (by rfl) (by rfl) ?_) | (refine q_bn ?_) | (refine q_be ?_) | (refine q_exit ?_) | (refine q_te ?_) | (refine q_ret ?_) | (refine q_tr ?_) | (refine q_br ?_))
  cases e3 : decide (((r.els.map Opr.av).length : Int) > 300)
  case true =>
    repeat (first | (refine q_tn ?_) | (refine q_nil ?_) | (refine q_seq ?_) | (refine q_reg [] ?_) | (refine q_load (by rfl) (by rfl) (by rfl) (by rfl) (upd_same _ _ _) (by rfl) ?_) | (refine q_load (by rfl) (by rfl) (by rfl) (by rfl) (upd2 hne _ _) (by rfl) ?_) | (refine q_val (by rfl) (by rfl) (by rfl) (by rfl) ?_) | (refine q_blk ?_) | (refine q_skip ?_) | (refine q_ct (by rfl) ?_) | (refine q_cf (by rfl) ?_) | (refine q_not (by rfl) (by rfl) ?_) | (refine q_bn ?_) | (refine q_be ?_) | (refine q_exit ?_) | (refine q_te ?_) | (refine q_ret ?_) | (refine q_tr ?_) | (refine q_br ?_))
    exact q_er rfl (AV.le_refl _) hout ⟨⟨false, rfl, fun e => Bool.noConfusion e⟩, rfl⟩
  repeat (first | (refine q_tn ?_) | (refine q_nil ?_) | (refine q_seq ?_) | (refine q_reg [] ?_) | (refine q_load (by rfl) (by rfl) (by rfl) (by rfl) (upd_same _ _ _) (by rfl) ?_) | (refine q_load (by rfl) (by rfl) (by rfl) (by rfl) (upd2 hne _ _) (by rfl) ?_) | (refine q_val (by rfl) (by rfl) (by rfl) (by rfl) ?_) | (refine q_blk ?_) | (refine q_skip ?_) | (refine q_ct (by rfl) ?_) | (refine q_cf (by rfl) ?_) | (refine q_not (by rfl) (by rfl) ?_) | (refine q_bn ?_) | (refine q_be ?_) | (refine q_exit ?_) | (refine q_te ?_) | (refine q_ret ?_) | (refine q_tr ?_) | (refine q_br ?_))
  cases e4 : decide (IntKind.i64.wrap (((byts r.q.key).length : Int) + ((byts r.q.en).length : Int)) > 300)
  case true =>
    repeat (first | (refine q_tn ?_) | (refine q_nil ?_) | (refine q_seq ?_) | (refine q_reg [] ?_) | (refine q_load (by rfl) (by rfl) (by rfl) (by rfl) (upd_same _ _ _) (by rfl) ?_) | (refine q_load (by rfl) (by rfl) (by rfl) (by rfl) (upd2 hne _ _) (by rfl) ?_) | (refine q_val (by rfl) (by rfl) (by rfl) (by rfl) ?_) | (refine q_blk ?_) | (refine q_skip ?_) | (refine q_ct (by rfl) ?_) | (refine q_cf (by rfl) ?_) | (refine q_not (by rfl) (by rfl) ?_) | (refine q_bn ?_) | (refine q_be ?_) | (refine q_exit ?_) | (refine q_te ?_) | (refine q_ret ?_) | (refine q_tr ?_) | (refine q_br ?_))
    exact q_er rfl (AV.le_refl _) hout ⟨⟨false, rfl, fun e => Bool.noConfusion e⟩, rfl⟩
  repeat (first | (refine q_tn ?_) | (refine q_nil ?_) | (refine q_seq ?_) | (refine q_reg [] ?_) | (refine q_load (by rfl) (by rfl) (by rfl) (by rfl) (upd_same _ _ _) (by rfl) ?_) | (refine q_load (by rfl) (by rfl) (by rfl) (by rfl) (upd2 hne _ _) (by rfl) ?_) | (refine q_val (by rfl) (by rfl) (by rfl) (by rfl) ?_) | (refine q_blk ?_) | (refine q_skip ?_) | (refine q_ct (by rfl) ?_) | (refine q_cf (by rfl) ?_) | (refine q_not (by rfl) (by rfl) ?_) | (refine q_bn ?_) | (refine q_be ?_) | (refine q_exit ?_) | (refine q_te ?_) | (refine q_ret ?_) | (refine q_tr ?_) | (refine q_br ?_))
  cases e5 : decide (((byts r.w.key).length : Int) > 70000)
  case true =>
    repeat (first | (refine q_tn ?_) | (refine q_nil ?_) | (refine q_seq ?_) | (refine q_reg [] ?_) | (refine q_load (by rfl) (by rfl) (by rfl) (by rfl) (upd_same _ _ _) (by rfl) ?_) | (refine q_load (by rfl) (by rfl) (by rfl) (by rfl) (upd2 hne _ _) (by rfl) ?_) | (refine q_val (by rfl) (by rfl) (by rfl) (by rfl) ?_) | (refine q_blk ?_) | (refine q_skip ?_) | (refine q_ct (by rfl) ?_) | (refine q_cf (by rfl) ?_) | (refine q_not (by rfl) (by rfl) ?_) | (refine q_bn ?_) | (refine q_be ?_) | (refine q_exit ?_) | (refine q_te ?_) | (refine q_ret ?_) | (refine q_tr ?_) | (refine q_br ?_))
    exact q_er rfl (AV.le_refl _) hout ⟨⟨false, rfl, fun e => Bool.noConfusion e⟩, rfl⟩
  repeat (first | (refine q_tn ?_) | (refine q_nil ?_) | (refine q_seq ?_) | (refine q_reg [] ?_) | (refine q_load (by rfl) (by rfl) (by rfl) (by rfl) (upd_same _ _ _) (by rfl) ?_) | (refine q_load (by rfl) (by rfl) (by rfl) (by rfl) (upd2 hne _ _) (by rfl) ?_) | (refine q_val (by rfl) (by rfl) (by rfl) (by rfl) ?_) | (refine q_blk ?_) | (refine q_skip ?_) | (refine q_ct (by rfl) ?_) | (refine q_cf (by rfl) ?_) | (refine q_not (by rfl) (by rfl) ?_) | (refine q_bn ?_) | (refine q_be ?_) | (refine q_exit ?_) | (refine q_te ?_) | (refine q_ret ?_) | (refine q_tr ?_) | (refine q_br ?_))
  cases e6 : decide (((byts r.w.val).length : Int) > 3000)
  case true =>
    repeat (first | (refine q_tn ?_) | (refine q_nil ?_) | (refine q_seq ?_) | (refine q_reg [] ?_) | (refine q_load (by rfl) (by rfl) (by rfl) (by rfl) (upd_same _ _ _) (by rfl) ?_) | (refine q_load (by rfl) (by rfl) (by rfl) (by rfl) (upd2 hne _ _) (by rfl) ?_) | (refine q_val (by rfl) (by rfl) (by rfl) (by rfl) ?_) | (refine q_blk ?_) | (refine q_skip ?_) | (refine q_ct (by rfl) ?_) | (refine q_cf (by rfl) ?_) | (refine q_not (by rfl) (by rfl) ?_) | (refine q_bn ?_) | (refine q_be ?_) | (refine q_exit ?_) | (refine q_te ?_) | (refine q_ret ?_) | (refine q_tr ?_) | (refine q_br ?_))
    exact q_er rfl (AV.le_refl _) hout ⟨⟨false, rfl, fun e => Bool.noConfusion e⟩, rfl⟩
  repeat (first | (refine q_tn ?_) | (refine q_nil ?_) | (refine q_seq ?_) | (refine q_reg [] ?_) | (refine q_load (by rfl) (by rfl) (by rfl) (by rfl) (upd_same _ _ _) (by rfl) ?_) | (refine q_load (by rfl) (by rfl) (by rfl) (by rfl) (upd2 hne _ _) (by rfl) ?_) | (refine q_val (by rfl) (by rfl) (by rfl) (by rfl) ?_) | (refine q_blk ?_) | (refine q_skip ?_) | (refine q_ct (by rfl) ?_) | (refine q_cf (by rfl) ?_) | (refine q_not (by rfl) (by rfl) ?_) | (refine q_bn ?_) | (refine q_be ?_) | (refine q_exit ?_) | (refine q_te ?_) | (refine q_ret ?_) | (refine q_tr ?_) | (refine q_br ?_))
  cases e7 : decide (IntKind.i64.wrap (((byts r.e.key).length : Int) + ((byts r.e.en).length : Int)) > 300)
  case true =>
    repeat (first | (refine q_tn ?_) | (refine q_nil ?_) | (refine q_seq ?_) | (refine q_reg [] ?_) | (refine q_load (by rfl) (by rfl) (by rfl) (by rfl) (upd_same _ _ _) (by rfl) ?_) | (refine q_load (by rfl) (by rfl) (by rfl) (by rfl) (upd2 hne _ _) (by rfl) ?_) | (refine q_val (by rfl) (by rfl) (by rfl) (by rfl) ?_) | (refine q_blk ?_) | (refine q_skip ?_) | (refine q_ct (by rfl) ?_) | (refine q_cf (by rfl) ?_) | (refine q_not (by rfl) (by rfl) ?_) | (refine q_bn ?_) | (refine q_be ?_) | (refine q_exit ?_) | (refine q_te ?_) | (refine q_ret ?_) | (refine q_tr ?_) | (refine q_br ?_))
    exact q_er rfl (AV.le_refl _) hout ⟨⟨false, rfl, fun e => Bool.noConfusion e⟩, rfl⟩
  repeat (first | (refine q_tn ?_) | (refine q_nil ?_) | (refine q_seq ?_) | (refine q_reg [] ?_) | (refine q_load (by rfl) (by rfl) (by rfl) (by rfl) (upd_same _ _ _) (by rfl) ?_) | (refine q_load (by rfl) (by rfl) (by rfl) (by rfl) (upd2 hne _ _) (by rfl) ?_) | (refine q_val (by rfl) (by rfl) (by rfl) (by rfl) ?_) | (refine q_blk ?_) | (refine q_skip ?_) | (refine q_ct (by rfl) ?_) | (refine q_cf (by rfl) ?_) | (refine q_not (by rfl) (by rfl) ?_) | (refine q_bn ?_) | (refine q_be ?_) | (refine q_exit ?_) | (refine q_te ?_) | (refine q_ret ?_) | (refine q_tr ?_) | (refine q_br ?_))
  cases e8 : decide (IntKind.i64.wrap (((byts r.wa.key).length : Int) + ((byts r.wa.en).length : Int)) > 300)
  case true =>
    repeat (first | (refine q_tn ?_) | (refine q_nil ?_) | (refine q_seq ?_) | (refine q_reg [] ?_) | (refine q_load (by rfl) (by rfl) (by rfl) (by rfl) (upd_same _ _ _) (by rfl) ?_) | (refine q_load (by rfl) (by rfl) (by rfl) (by rfl) (upd2 hne _ _) (by rfl) ?_) | (refine q_val (by rfl) (by rfl) (by rfl) (by rfl) ?_) | (refine q_blk ?_) | (refine q_skip ?_) | (refine q_ct (by rfl) ?_) | (refine q_cf (by rfl) ?_) | (refine q_not (by rfl) (by rfl) ?_) | (refine q_bn ?_) | (refine q_be ?_) | (refine q_exit ?_) | (refine q_te ?_) | (refine q_ret ?_) | (refine q_tr ?_) | (refine q_br ?_))
    exact q_er rfl (AV.le_refl _) hout ⟨⟨false, rfl, fun e => Bool.noConfusion e⟩, rfl⟩
  repeat (first | (refine q_tn ?_) | (refine q_nil ?_) | (refine q_seq ?_) | (refine q_reg [] ?_) | (refine q_load (by rfl) (by rfl) (by rfl) (by rfl) (upd_same _ _ _) (by rfl) ?_) | (refine q_load (by rfl) (by rfl) (by rfl) (by rfl) (upd2 hne _ _) (by rfl) ?_) | (refine q_val (by rfl) (by rfl) (by rfl) (by rfl) ?_) | (refine q_blk ?_) | (refine q_skip ?_) | (refine q_ct (by rfl) ?_) | (refine q_cf (by rfl) ?_) | (refine q_not (by rfl) (by rfl) ?_) | (refine q_bn ?_) | (refine q_be ?_) | (refine q_exit ?_) | (refine q_te ?_) | (refine q_ret ?_) | (refine q_tr ?_) | (refine q_br ?_))
  have h1 : r.ifs.length ≤ 300 := by simp at e1; omega
  have h2 : r.thn.length ≤ 300 := by simp at e2; omega
  have h3 : r.els.length ≤ 300 := by simp at e3; omega
  clear e1 e2 e3 e4 e5 e6 e7 e8
  refine q_loop (fun j s => ∃ (i : Nat) (x : Int), i + j = r.ifs.length ∧ s = ⟨155, frL [(1, pt c), (3, pt c3), (4, pi x), (80, .row 5 (r.ifs.map Tst.av)), (81, pi r.ifs.length), (82, pi i)], ⟨upd (upd σ.vars c r.av) c3 (mulc r), σ.tips⟩⟩) (n := r.ifs.length)
    (s0 := ⟨155, frL [(1, pt c), (3, pt c3), (4, pi 0), (80, .row 5 (r.ifs.map Tst.av)), (81, pi r.ifs.length), (82, pi (0 : Nat))], ⟨upd (upd σ.vars c r.av) c3 (mulc r), σ.tips⟩⟩)
    (Sub.mk' rfl ⟨⟨_, rfl, AV.le_refl _⟩, ⟨_, rfl, AV.le_refl _⟩, ⟨_, rfl, AV.le_refl _⟩, ⟨_, rfl, AV.le_refl _⟩, ⟨_, rfl, AV.le_of_eq (by simp)⟩, ⟨_, rfl, AV.le_refl _⟩, trivial⟩ (SgLe.refl _)) ⟨0, 0, by omega, rfl⟩ ?_
  rintro j s ⟨i, x, hij, rfl⟩
  repeat (first | (refine q_tn ?_) | (refine q_nil ?_) | (refine q_seq ?_) | (refine q_reg [] ?_) | (refine q_load (by rfl) (by rfl) (by rfl) (by rfl) (upd_same _ _ _) (by rfl) ?_) | (refine q_load (by rfl) (by rfl) (by rfl) (by rfl) (upd2 hne _ _) (by rfl) ?_) | (refine q_val (by rfl) (by rfl) (by rfl) (by rfl) ?_) | (refine q_blk ?_) | (refine q_skip ?_) | (refine q_ct (by rfl) ?_) | (refine q_cf (by rfl) ?_) | (refine q_not (by rfl) (by rfl) ?_) | (refine q_bn ?_) | (refine q_be ?_) | (refine q_exit ?_) | (refine q_te ?_) | (refine q_ret ?_) | (refine q_tr ?_) | (refine q_br ?_))
  refine q_if rfl ?_ ?_
  · intro hlt
    have hlt : (i : Int) < r.ifs.length := of_decide_eq_true hlt
    have hi : i < r.ifs.length := by omega
    have hget : (r.ifs.map Tst.av)[i]? = some (r.ifs[i]).av := by simp [hi]
    generalize r.ifs[i] = o at hget
    repeat (first | (refine q_tn ?_) | (refine q_nil ?_) | (refine q_seq ?_) | (refine q_reg [] ?_) | (refine q_load (by rfl) (by rfl) (by rfl) (by rfl) (upd_same _ _ _) (by rfl) ?_) | (refine q_val (by rfl) (by rfl) (by rfl) (by rfl) ?_) | (refine q_blk ?_) | (refine q_skip ?_) | (refine q_ct (by rfl) ?_) | (refine q_cf (by rfl) ?_) | (refine q_not (by rfl) (by rfl) ?_) | (refine q_bn ?_) | (refine q_be ?_) | (refine q_exit ?_) | (refine q_te ?_) | (refine q_ret ?_) | (refine q_tr ?_) | (refine q_br ?_))
    refine q_idx2 (by rfl) (by rfl) (by rfl) e29 s56 (by rfl) (by rfl) (by rfl) (by rfl) hget ?_
    repeat (first | (refine q_tn ?_) | (refine q_nil ?_) | (refine q_seq ?_) | (refine q_reg [] ?_) | (refine q_load (by rfl) (by rfl) (by rfl) (by rfl) (upd_same _ _ _) (by rfl) ?_) | (refine q_val (by rfl) (by rfl) (by rfl) (by rfl) ?_) | (refine q_blk ?_) | (refine q_skip ?_) | (refine q_ct (by rfl) ?_) | (refine q_cf (by rfl) ?_) | (refine q_not (by rfl) (by rfl) ?_) | (refine q_bn ?_) | (refine q_be ?_) | (refine q_exit ?_) | (refine q_te ?_) | (refine q_ret ?_) | (refine q_tr ?_) | (refine q_br ?_))
    refine q_w (by rfl) (by rfl) (by rfl) (by rfl) ?_
    refine AO.alloc (t := 56) rfl z56 ?_
    intro c4 hc4 _
    refine q_store (by rfl) (by rfl) (by rfl) (by rfl) (by rfl) (by rfl) s56 (by rfl) (upd_same _ _ _) (Nat.le_of_ble_eq_true rfl) ?_
    refine q_sig (σ := ⟨upd (upd (upd σ.vars c r.av) c3 (mulc r)) c4 o.av, σ.tips⟩) ?_ ?_
    · show (⟨upd (upd (upd (upd σ.vars c r.av) c3 (mulc r)) c4 z56l) c4 o.av, σ.tips⟩ : Sg) = _
      rw [upd_upd]
    repeat (first | (refine q_tn ?_) | (refine q_nil ?_) | (refine q_seq ?_) | (refine q_reg [] ?_) | (refine q_load (by rfl) (by rfl) (by rfl) (by rfl) (upd_same _ _ _) (by rfl) ?_) | (refine q_val (by rfl) (by rfl) (by rfl) (by rfl) ?_) | (refine q_blk ?_) | (refine q_skip ?_) | (refine q_ct (by rfl) ?_) | (refine q_cf (by rfl) ?_) | (refine q_not (by rfl) (by rfl) ?_) | (refine q_bn ?_) | (refine q_be ?_) | (refine q_exit ?_) | (refine q_te ?_) | (refine q_ret ?_) | (refine q_tr ?_) | (refine q_br ?_))
    exact ⟨j - 1, ⟨155, frL [(1, pt c), (3, pt c3), (4, pi _), (80, .row 5 (r.ifs.map Tst.av)), (81, pi r.ifs.length), (82, pi (i + 1 : Nat))], ⟨upd (upd σ.vars c r.av) c3 (mulc r), σ.tips⟩⟩, by omega, Sub.mk' rfl ⟨⟨_, rfl, AV.le_refl _⟩, ⟨_, rfl, AV.le_refl _⟩, ⟨_, rfl, AV.le_refl _⟩, ⟨_, rfl, AV.le_refl _⟩, ⟨_, rfl, AV.le_refl _⟩, ⟨_, rfl, AV.le_of_eq (by rw [wrap_i64 _ (by omega) (by omega)]; rfl)⟩, trivial⟩ (SgLe.var hc4), i + 1, _, by omega, rfl⟩
  intro hge
  have hge : ¬ ((i : Int) < r.ifs.length) := of_decide_eq_false hge
  repeat (first | (refine q_tn ?_) | (refine q_nil ?_) | (refine q_seq ?_) | (refine q_reg [] ?_) | (refine q_load (by rfl) (by rfl) (by rfl) (by rfl) (upd_same _ _ _) (by rfl) ?_) | (refine q_load (by rfl) (by rfl) (by rfl) (by rfl) (upd2 hne _ _) (by rfl) ?_) | (refine q_val (by rfl) (by rfl) (by rfl) (by rfl) ?_) | (refine q_blk ?_) | (refine q_skip ?_) | (refine q_ct (by rfl) ?_) | (refine q_cf (by rfl) ?_) | (refine q_not (by rfl) (by rfl) ?_) | (refine q_bn ?_) | (refine q_be ?_) | (refine q_exit ?_) | (refine q_te ?_) | (refine q_ret ?_) | (refine q_tr ?_) | (refine q_br ?_))
  obtain ⟨E, hE⟩ : ∃ E : List (List AV), E = [[.row 20 (r.thn.map Opr.av)], [.row 20 (r.els.map Opr.av)]] := ⟨_, rfl⟩
  have rows : ∀ i, i < 2 → ∃ Lr : List Opr, Lr.length ≤ 300 ∧ E[i]? = some [.row 20 (Lr.map Opr.av)] := fun i hi => by
    rcases (by omega : i = 0 ∨ i = 1) with rfl | rfl
    · exact ⟨r.thn, h2, by rw [hE]; rfl⟩
    · exact ⟨r.els, h3, by rw [hE]; rfl⟩
  refine q_loop (fun j s => ∃ (i : Nat) (x : Int), i + j = 2 ∧ s = ⟨155, frL [(1, pt c), (3, pt c3), (4, pi x), (102, .row 1 E), (103, pi 2), (104, pi i)], ⟨upd (upd σ.vars c r.av) c3 (mulc r), σ.tips⟩⟩) (n := 2)
    (s0 := ⟨155, frL [(1, pt c), (3, pt c3), (4, pi x), (102, .row 1 E), (103, pi 2), (104, pi (0 : Nat))], ⟨upd (upd σ.vars c r.av) c3 (mulc r), σ.tips⟩⟩)
    (Sub.mk' rfl ⟨⟨_, rfl, AV.le_refl _⟩, ⟨_, rfl, AV.le_refl _⟩, ⟨_, rfl, AV.le_refl _⟩, ⟨_, rfl, AV.le_of_eq (by rw [hE]; rfl)⟩, ⟨_, rfl, AV.le_refl _⟩, ⟨_, rfl, AV.le_refl _⟩, trivial⟩ (SgLe.refl _)) ⟨0, x, by omega, rfl⟩ ?_
  clear hij hge
  rintro j s ⟨i, x, hij, rfl⟩
  repeat (first | (refine q_tn ?_) | (refine q_nil ?_) | (refine q_seq ?_) | (refine q_reg [] ?_) | (refine q_load (by rfl) (by rfl) (by rfl) (by rfl) (upd_same _ _ _) (by rfl) ?_) | (refine q_val (by rfl) (by rfl) (by rfl) (by rfl) ?_) | (refine q_blk ?_) | (refine q_skip ?_) | (refine q_ct (by rfl) ?_) | (refine q_cf (by rfl) ?_) | (refine q_not (by rfl) (by rfl) ?_) | (refine q_bn ?_) | (refine q_be ?_) | (refine q_exit ?_) | (refine q_te ?_) | (refine q_ret ?_) | (refine q_tr ?_) | (refine q_br ?_))
  refine q_if rfl ?_ ?_
  · intro hlt
    have hlt : (i : Int) < 2 := of_decide_eq_true hlt
    obtain ⟨Lr, hl3, hget⟩ := rows i (by omega)
    repeat (first | (refine q_tn ?_) | (refine q_nil ?_) | (refine q_seq ?_) | (refine q_reg [] ?_) | (refine q_load (by rfl) (by rfl) (by rfl) (by rfl) (upd_same _ _ _) (by rfl) ?_) | (refine q_val (by rfl) (by rfl) (by rfl) (by rfl) ?_) | (refine q_blk ?_) | (refine q_skip ?_) | (refine q_ct (by rfl) ?_) | (refine q_cf (by rfl) ?_) | (refine q_not (by rfl) (by rfl) ?_) | (refine q_bn ?_) | (refine q_be ?_) | (refine q_exit ?_) | (refine q_te ?_) | (refine q_ret ?_) | (refine q_tr ?_) | (refine q_br ?_))
    refine q_idx2 (by rfl) (by rfl) (by rfl) e57 s30 (by rfl) (by rfl) (by rfl) (by rfl) hget ?_
    repeat (first | (refine q_tn ?_) | (refine q_nil ?_) | (refine q_seq ?_) | (refine q_reg [] ?_) | (refine q_load (by rfl) (by rfl) (by rfl) (by rfl) (upd_same _ _ _) (by rfl) ?_) | (refine q_val (by rfl) (by rfl) (by rfl) (by rfl) ?_) | (refine q_blk ?_) | (refine q_skip ?_) | (refine q_ct (by rfl) ?_) | (refine q_cf (by rfl) ?_) | (refine q_not (by rfl) (by rfl) ?_) | (refine q_bn ?_) | (refine q_be ?_) | (refine q_exit ?_) | (refine q_te ?_) | (refine q_ret ?_) | (refine q_tr ?_) | (refine q_br ?_))
    refine q_loop (fun j s => ∃ (k : Nat) (x : Int), k + j = Lr.length ∧ s = ⟨155, frL [(1, pt c), (3, pt c3), (4, pi x), (102, .row 1 E), (103, pi 2), (104, pi i), (108, .row 20 (Lr.map Opr.av)), (109, pi Lr.length), (110, pi k)], ⟨upd (upd σ.vars c r.av) c3 (mulc r), σ.tips⟩⟩) (n := Lr.length)
      (s0 := ⟨155, frL [(1, pt c), (3, pt c3), (4, pi x), (102, .row 1 E), (103, pi 2), (104, pi i), (108, .row 20 (Lr.map Opr.av)), (109, pi Lr.length), (110, pi (0 : Nat))], ⟨upd (upd σ.vars c r.av) c3 (mulc r), σ.tips⟩⟩)
      (Sub.mk' rfl ⟨⟨_, rfl, AV.le_refl _⟩, ⟨_, rfl, AV.le_refl _⟩, ⟨_, rfl, AV.le_refl _⟩, ⟨_, rfl, AV.le_refl _⟩, ⟨_, rfl, AV.le_refl _⟩, ⟨_, rfl, AV.le_refl _⟩, ⟨_, rfl, AV.le_refl _⟩, ⟨_, rfl, AV.le_of_eq (by simp)⟩, ⟨_, rfl, AV.le_refl _⟩, trivial⟩ (SgLe.refl _)) ⟨0, x, by omega, rfl⟩ ?_
    rintro j2 s ⟨k, x, hkj, rfl⟩
    repeat (first | (refine q_tn ?_) | (refine q_nil ?_) | (refine q_seq ?_) | (refine q_reg [] ?_) | (refine q_load (by rfl) (by rfl) (by rfl) (by rfl) (upd_same _ _ _) (by rfl) ?_) | (refine q_val (by rfl) (by rfl) (by rfl) (by rfl) ?_) | (refine q_blk ?_) | (refine q_skip ?_) | (refine q_ct (by rfl) ?_) | (refine q_cf (by rfl) ?_) | (refine q_not (by rfl) (by rfl) ?_) | (refine q_bn ?_) | (refine q_be ?_) | (refine q_exit ?_) | (refine q_te ?_) | (refine q_ret ?_) | (refine q_tr ?_) | (refine q_br ?_))
    refine q_if rfl ?_ ?_
    · intro hlt2
      have hlt2 : (k : Int) < Lr.length := of_decide_eq_true hlt2
      have hk : k < Lr.length := by omega
      have hgk : (Lr.map Opr.av)[k]? = some (Lr[k]).av := by simp [hk]
      generalize Lr[k] = o at hgk
      repeat (first | (refine q_tn ?_) | (refine q_nil ?_) | (refine q_seq ?_) | (refine q_reg [] ?_) | (refine q_load (by rfl) (by rfl) (by rfl) (by rfl) (upd_same _ _ _) (by rfl) ?_) | (refine q_val (by rfl) (by rfl) (by rfl) (by rfl) ?_) | (refine q_blk ?_) | (refine q_skip ?_) | (refine q_ct (by rfl) ?_) | (refine q_cf (by rfl) ?_) | (refine q_not (by rfl) (by rfl) ?_) | (refine q_bn ?_) | (refine q_be ?_) | (refine q_exit ?_) | (refine q_te ?_) | (refine q_ret ?_) | (refine q_tr ?_) | (refine q_br ?_))
      refine q_idx2 (by rfl) (by rfl) (by rfl) e30 s59 (by rfl) (by rfl) (by rfl) (by rfl) hgk ?_
      repeat (first | (refine q_tn ?_) | (refine q_nil ?_) | (refine q_seq ?_) | (refine q_reg [] ?_) | (refine q_load (by rfl) (by rfl) (by rfl) (by rfl) (upd_same _ _ _) (by rfl) ?_) | (refine q_val (by rfl) (by rfl) (by rfl) (by rfl) ?_) | (refine q_blk ?_) | (refine q_skip ?_) | (refine q_ct (by rfl) ?_) | (refine q_cf (by rfl) ?_) | (refine q_not (by rfl) (by rfl) ?_) | (refine q_bn ?_) | (refine q_be ?_) | (refine q_exit ?_) | (refine q_te ?_) | (refine q_ret ?_) | (refine q_tr ?_) | (refine q_br ?_))
      refine q_w (by rfl) (by rfl) (by rfl) (by rfl) ?_
      refine AO.alloc (t := 59) rfl z59 ?_
      intro c4 hc4 _
      refine q_store (by rfl) (by rfl) (by rfl) (by rfl) (by rfl) (by rfl) s59 (by rfl) (upd_same _ _ _) (Nat.le_of_ble_eq_true rfl) ?_
      refine q_sig (σ := ⟨upd (upd (upd σ.vars c r.av) c3 (mulc r)) c4 o.av, σ.tips⟩) ?_ ?_
      · show (⟨upd (upd (upd (upd σ.vars c r.av) c3 (mulc r)) c4 z59l) c4 o.av, σ.tips⟩ : Sg) = _
        rw [upd_upd]
      repeat (first | (refine q_tn ?_) | (refine q_nil ?_) | (refine q_seq ?_) | (refine q_reg [] ?_) | (refine q_load (by rfl) (by rfl) (by rfl) (by rfl) (upd_same _ _ _) (by rfl) ?_) | (refine q_val (by rfl) (by rfl) (by rfl) (by rfl) ?_) | (refine q_blk ?_) | (refine q_skip ?_) | (refine q_ct (by rfl) ?_) | (refine q_cf (by rfl) ?_) | (refine q_not (by rfl) (by rfl) ?_) | (refine q_bn ?_) | (refine q_be ?_) | (refine q_exit ?_) | (refine q_te ?_) | (refine q_ret ?_) | (refine q_tr ?_) | (refine q_br ?_))
      exact ⟨j2 - 1, ⟨155, frL [(1, pt c), (3, pt c3), (4, pi _), (102, .row 1 E), (103, pi 2), (104, pi i), (108, .row 20 (Lr.map Opr.av)), (109, pi Lr.length), (110, pi (k + 1 : Nat))], ⟨upd (upd σ.vars c r.av) c3 (mulc r), σ.tips⟩⟩, by omega, Sub.mk' rfl ⟨⟨_, rfl, AV.le_refl _⟩, ⟨_, rfl, AV.le_refl _⟩, ⟨_, rfl, AV.le_refl _⟩, ⟨_, rfl, AV.le_refl _⟩, ⟨_, rfl, AV.le_refl _⟩, ⟨_, rfl, AV.le_refl _⟩, ⟨_, rfl, AV.le_refl _⟩, ⟨_, rfl, AV.le_refl _⟩, ⟨_, rfl, AV.le_of_eq (by rw [wrap_i64 _ (by omega) (by omega)]; rfl)⟩, trivial⟩ (SgLe.var hc4), k + 1, _, by omega, rfl⟩
    · intro hge
      repeat (first | (refine q_tn ?_) | (refine q_nil ?_) | (refine q_seq ?_) | (refine q_reg [] ?_) | (refine q_load (by rfl) (by rfl) (by rfl) (by rfl) (upd_same _ _ _) (by rfl) ?_) | (refine q_val (by rfl) (by rfl) (by rfl) (by rfl) ?_) | (refine q_blk ?_) | (refine q_skip ?_) | (refine q_ct (by rfl) ?_) | (refine q_cf (by rfl) ?_) | (refine q_not (by rfl) (by rfl) ?_) | (refine q_bn ?_) | (refine q_be ?_) | (refine q_exit ?_) | (refine q_te ?_) | (refine q_ret ?_) | (refine q_tr ?_) | (refine q_br ?_))
      exact ⟨j - 1, ⟨155, frL [(1, pt c), (3, pt c3), (4, pi _), (102, .row 1 E), (103, pi 2), (104, pi (i + 1 : Nat))], ⟨upd (upd σ.vars c r.av) c3 (mulc r), σ.tips⟩⟩, by omega, Sub.mk' rfl ⟨⟨_, rfl, AV.le_refl _⟩, ⟨_, rfl, AV.le_refl _⟩, ⟨_, rfl, AV.le_refl _⟩, ⟨_, rfl, AV.le_refl _⟩, ⟨_, rfl, AV.le_refl _⟩, ⟨_, rfl, AV.le_of_eq (by rw [wrap_i64 _ (by omega) (by omega)]; rfl)⟩, trivial⟩ (SgLe.refl _), i + 1, _, by omega, rfl⟩
  · intro hge
    repeat (first | (refine q_tn ?_) | (refine q_nil ?_) | (refine q_seq ?_) | (refine q_reg [] ?_) | (refine q_load (by rfl) (by rfl) (by rfl) (by rfl) (upd_same _ _ _) (by rfl) ?_) | (refine q_val (by rfl) (by rfl) (by rfl) (by rfl) ?_) | (refine q_blk ?_) | (refine q_skip ?_) | (refine q_ct (by rfl) ?_) | (refine q_cf (by rfl) ?_) | (refine q_not (by rfl) (by rfl) ?_) | (refine q_bn ?_) | (refine q_be ?_) | (refine q_exit ?_) | (refine q_te ?_) | (refine q_ret ?_) | (refine q_tr ?_) | (refine q_br ?_))
    exact q_er rfl (AV.le_refl _) hout ⟨⟨_, rfl, fun _ => ⟨h1, h2, h3⟩⟩, rfl⟩
end Go.Ab
