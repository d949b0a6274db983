/- Of any page it is told whether it is right, and its bytes, as the document says, for every page. Conditions: none beyond the given row's own. -/
-- Written by wip/printx.py, a program of this work over the kit's print, for this claim.
import Derived.Test.YtandeendeoempaaPCx16
import Derived.Test.YtandeendeoempaaPCx17
import Derived.Test.YtandeendeoempaaPurePageCodes
import Derived.Test.YtandeendeoempaaRows
import Derived.WalkKit
import Derived.ProofKit
import Derived.OpenShut
import Derived.ShutString
import Derived.ChangeOld
import Derived.Below
import Derived.SizedLaws
import Derived.ChangeSlices
import Derived.Test.YtandeendeoempaaOpen
namespace Go.Proofs.Ytandeendeoempaa.pageCodes
open Go.ChangeShapes Go.WideShapes Go.ChangeAt Go.RowKit Go.Proofs.YtandeendeoempaaW.PrintWords Go.Proofs.Ytandeendeoempaa.PC
open Go.ChangeMaps (open_string shut_string)
set_option linter.unusedVariables false
theorem own : ownKnob Try.prog.godebug = none := by kernel_rfl
theorem laidOut : laidOutB Try.prog = true := by kernel_rfl
set_option maxRecDepth 100000 in
set_option maxHeartbeats 2000000 in
theorem lifted (os : Os) (started : os.Started) (H : Type) (enc : TypeId × Value → H) :
    ReturnsInHanded {} Try.checked os 3 .any (Rows.pageCodesSpec.pre6 enc Try.prog Try.f3 Rows.pageCodesRow.domain false) (Rows.pageCodesSpec.post enc Try.prog Try.f3 false true false false) := by
  refine returnsInHanded_of_change_sized (C := Try.checked) own started (by kernel_rfl) Try.func3
    (ChangeSpec.witness6 (enc := enc) (C := Try.checked) false ⟨#[], #[.agg #[.int .i64 0, .int .u64 0, .int .i64 0, .slice none 0 0, .slice none 0 0, .slice none 0 0, .slice none 0 0]], []⟩ 8 (by kernel_rfl) (by kernel_rfl) (by kernel_rfl) (by kernel_rfl)) ?_
  intro W base args ds gs before hval0 hW hcnd hsz0 _
  have hsz : (DataW.weightsEach Try.prog (Try.f3.params.toList ++ Rows.pageCodesSpec.plain.varTypes Try.prog) (ds ++ gs)).all (· ≤ reachBytes) = true := hsz0
  have hval : ∀ (j : Nat) t v, Try.f3.params[j]? = some t → args[j]? = some v → Value.okWide Try.prog W .any base t v := hval0
  have hW' := hW
  obtain ⟨p, q, hA0, hV, rfl, hfz, hnd⟩ := hW
  have hA : DataW.TrodAll enc Try.prog W 0 (fun _ => true) true Try.f3.params.toList args.toList ds p := hA0
  rw [Try.params3] at hA hval hsz
  obtain ⟨v0, vs0, d0, ds0, p0, q0, hargs, rfl, rfl, h0, r0⟩ := trodAll_cons hA
  obtain ⟨rfl, rfl, rfl⟩ := trodAll_nil r0
  obtain rfl : args = #[v0] := by cases args; simp_all
  obtain ⟨rfl, rfl⟩ := trodVars_none hV
  obtain ⟨cs0, rfl, hn0⟩ := okWide_struct Try.underlying28 (hval 0 28 v0 rfl rfl)
  have k0_ := h0
  have lt0 : ∀ x ∈ p0, x.block < W.heap.size := by obtain ⟨m, hm⟩ := k0_; exact DataW.trod_lt m _ _ _ hm
  obtain ⟨fuel0, hf0⟩ := h0
  obtain ⟨y0, K0, hk0⟩ := opens28 hf0 (fun n_ hn_ => of_decide_eq_true (List.all_eq_true.1 hsz n_ (DataW.weights_mem_each (j := 0) (t := 28) rfl rfl n_ hn_)))
  obtain ⟨b0_0, b0_1, b0_2, b0_3, b0_4, b0_5, b0_6⟩ := y0
  obtain ⟨A0_3, c0_3, A0_4, c0_4, A0_5, c0_5, A0_6, c0_6, e0, hc0_3, hr0_3, hc0_4, hr0_4, hc0_5, hr0_5, hc0_6, hr0_6⟩ := k28_open K0
  obtain ⟨cl0⟩ := cs0
  change cl0 = [.int .i64 b0_0, .int .u64 b0_1, .int .i64 b0_2, .slice A0_3 b0_3.length c0_3, .slice A0_4 b0_4.length c0_4, .slice A0_5 b0_5.length c0_5, .slice A0_6 b0_6.length c0_6] at e0
  subst e0
  (try clear hA0)
  (try clear hval0)
  (try clear hsz0)
  (try clear hsz)
  refine (terrierlaw04_PageCodes.walk Pure.PageCodes b0_0 b0_1 b0_2 _ _ b0_3 _ _ b0_4 _ _ b0_5 _ _ b0_6 W hk0 hr0_3 hc0_3 hr0_4 hc0_4 hr0_5 hc0_5 hr0_6 hc0_6).mono fun e W' ⟨he, bel⟩ => ?_
  subst he
  exact ⟨_, rfl, _, _, _, [], _, [], hW', trodAll_mk1 (shut_bool Try.underlying4 _), (trodAll_cons_mk (Below.trod laidOut (by kernel_rfl) (of_decide_eq_true (by kernel_rfl)) k0_ bel lt0) trodAll_mk0), rfl, bel.frame _, fun h => by cases h⟩
theorem over : Rows.pageCodesRow.holds Try.pinned (OpenSpec.ofChange Rows.pageCodesSpec) :=
  OpenClaim.holds_of_wide 3 Try.f3 rfl rfl rfl rfl rfl rfl rfl ⟨rfl, rfl, rfl, rfl, rfl⟩ rfl rfl rfl rfl rfl (by kernel_rfl) Try.func3 (by kernel_rfl)
    (of_decide_eq_true (by kernel_rfl)) (by unfold Func.isWrapper; first | (rw [if_pos (by decide +kernel)]; kernel_rfl) | (rw [if_neg (by decide +kernel)]; exact ⟨rfl, rfl⟩))
    (fun os started H enc _ => lifted os started H enc)
theorem proved : Rows.PageCodesSaid := over
#print axioms proved
end Go.Proofs.Ytandeendeoempaa.pageCodes
namespace Go.Proofs.Ytandeendeoempaa
/-- The row, under a short name, for the claim. -/
theorem pageCodes_holds : Rows.PageCodesSaid := pageCodes.proved
end Go.Proofs.Ytandeendeoempaa
