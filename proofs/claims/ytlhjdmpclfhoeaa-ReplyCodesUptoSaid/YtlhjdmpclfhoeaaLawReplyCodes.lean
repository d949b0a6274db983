/- Of any reply, of the bulk that the second form asks for, it is told whether it can be coded, and its bytes, as the document says: the plain statement that is left of the law ReplyCodes. Conditions: none beyond the given row's own. -/
-- Written by wip/printx.py, a program of this work over the kit's print, for this claim.
import Derived.Test.YtlhjdmpclfhoeaaPCx15
import Derived.Test.YtlhjdmpclfhoeaaPureReplyCodes
import Derived.Test.YtlhjdmpclfhoeaaRows
import Derived.WalkKit
import Derived.ProofKit
import Derived.OpenShut
import Derived.ShutString
import Derived.ChangeOld
import Derived.Below
import Derived.SizedLaws
import Derived.Deep.CondSized
import Derived.ChangeSlices
import Derived.Test.YtlhjdmpclfhoeaaOpen
namespace Go.Proofs.Ytlhjdmpclfhoeaa.replyCodes
open Go.ChangeShapes Go.WideShapes Go.ChangeAt Go.RowKit Go.Proofs.YtlhjdmpclfhoeaaW.PrintWords Go.Proofs.Ytlhjdmpclfhoeaa.PC
open Go.ChangeMaps (open_string shut_string)
set_option linter.unusedVariables false
theorem own : ownKnob Try.prog.godebug = none := by kernel_rfl
theorem laidOut : laidOutB Try.prog = true := by kernel_rfl
set_option maxRecDepth 100000 in
set_option maxHeartbeats 2000000 in
theorem lifted (os : Os) (started : os.Started) (H : Type) (enc : TypeId × Value → H) (F : Stop.Interp) :
    ReturnsInHanded {} Try.checked os 3 .any ((Rows.OpenSpec.upto Rows.replyCodesSpec).pre6 enc Try.prog Try.f3 Rows.replyCodesUptoRow.domain false) (((Rows.OpenSpec.upto Rows.replyCodesSpec).at F).post enc Try.prog Try.f3 false true false false) := by
  refine returnsInHanded_of_cond_sized (C := Try.checked) (s := Rows.OpenSpec.upto Rows.replyCodesSpec) (k := Rows.uptoSmall) rfl own started (by kernel_rfl) Try.func3
    (OpenSpec.witness (enc := enc) (C := Try.checked) (s := Rows.OpenSpec.upto Rows.replyCodesSpec) (k := Rows.uptoSmall) rfl false ⟨#[], #[.agg #[.int .i64 0, .int .i64 0, .int .i64 0, .int .i64 0, .slice none 0 0, .int .i64 0, .bool false, .slice none 0 0, .int .i64 0, .bool false, .slice none 0 0, .int .i64 0, .int .i64 0, .int .i64 0, .slice none 0 0, .slice none 0 0, .int .u32 0, .int .i64 0]], []⟩ 8 (by kernel_rfl) (by kernel_rfl) (by kernel_rfl) (x := ([.agg [.lit (.int .i64 0), .lit (.int .i64 0), .lit (.int .i64 0), .agg [.lit (.int .i64 0), .agg [.nil, .lit (.int .i64 0), .lit (.bool false)], .nil, .lit (.int .i64 0)], .lit (.bool false), .nil, .lit (.int .i64 0), .lit (.int .i64 0), .lit (.int .i64 0), .nil, .nil, .lit (.int .u32 0), .lit (.int .i64 0)]], [], [])) (by kernel_rfl) rfl (by kernel_rfl)) ?_
  intro W base args ds gs before hval0 hW hcnd hkk hsz0 _
  have hsz : (DataW.weightsEach Try.prog (Try.f3.params.toList ++ Rows.replyCodesSpec.plain.varTypes Try.prog) (ds ++ gs)).all (· ≤ reachBytes) = true := hsz0
  have hval : ∀ (j : Nat) t v, Try.f3.params[j]? = some t → args[j]? = some v → Value.okWide Try.prog W .any base t v := hval0
  have hW' := hW
  obtain ⟨p, q, hA0, hV, rfl, hfz, hnd⟩ := hW
  have hA : DataW.TrodAll enc Try.prog W 0 (fun _ => true) true Try.f3.params.toList args.toList ds p := hA0
  rw [Try.params3] at hA hval hsz
  obtain ⟨v0, vs0, d0, ds0, p0, q0, hargs, rfl, rfl, h0, r0⟩ := trodAll_cons hA
  obtain ⟨rfl, rfl, rfl⟩ := trodAll_nil r0
  obtain rfl : args = #[v0] := by cases args; simp_all
  obtain ⟨rfl, rfl⟩ := trodVars_none hV
  obtain ⟨cs0, rfl, hn0⟩ := okWide_struct Try.underlying33 (hval 0 33 v0 rfl rfl)
  have k0_ := h0
  have lt0 : ∀ x ∈ p0, x.block < W.heap.size := by obtain ⟨m, hm⟩ := k0_; exact DataW.trod_lt m _ _ _ hm
  obtain ⟨fuel0, hf0⟩ := h0
  obtain ⟨y0, K0, hk0⟩ := opens33 hf0 (fun n_ hn_ => of_decide_eq_true (List.all_eq_true.1 hsz n_ (DataW.weights_mem_each (j := 0) (t := 33) rfl rfl n_ hn_))) (Open.arg_le hkk (by simp))
  obtain ⟨b0_0, b0_1, b0_2, ⟨b0_3, ⟨b0_4, b0_5, b0_6⟩, b0_7, b0_8⟩, b0_9, b0_10, b0_11, b0_12, b0_13, b0_14, b0_15, b0_16, b0_17⟩ := y0
  obtain ⟨A0_4, c0_4, A0_7, c0_7, A0_10, c0_10, A0_14, c0_14, A0_15, c0_15, e0, hc0_4, hr0_4, hc0_7, hr0_7, hc0_10, hr0_10, hc0_14, hr0_14, hc0_15, hr0_15⟩ := k33_open K0
  obtain ⟨cl0⟩ := cs0
  change cl0 = [.int .i64 b0_0, .int .i64 b0_1, .int .i64 b0_2, .int .i64 b0_3, .slice A0_4 b0_4.length c0_4, .int .i64 b0_5, .bool b0_6, .slice A0_7 b0_7.length c0_7, .int .i64 b0_8, .bool b0_9, .slice A0_10 b0_10.length c0_10, .int .i64 b0_11, .int .i64 b0_12, .int .i64 b0_13, .slice A0_14 b0_14.length c0_14, .slice A0_15 b0_15.length c0_15, .int .u32 b0_16, .int .i64 b0_17] at e0
  subst e0
  (try clear hA0)
  (try clear hval0)
  (try clear hsz0)
  (try clear hsz)
  refine (terrierlaw20_ReplyCodes.walk Pure.ReplyCodes b0_0 b0_1 b0_2 b0_3 _ _ b0_4 b0_5 b0_6 _ _ b0_7 b0_8 b0_9 _ _ b0_10 b0_11 b0_12 b0_13 _ _ b0_14 _ _ b0_15 b0_16 b0_17 W hk0 hr0_4 hc0_4 hr0_7 hc0_7 hr0_10 hc0_10 hr0_14 hc0_14 hr0_15 hc0_15).mono fun e W' ⟨he, bel⟩ => ?_
  subst he
  exact ⟨_, rfl, _, _, _, [], _, [], hW', trodAll_mk1 (shut_bool Try.underlying4 _), (trodAll_cons_mk (Below.trod laidOut (by kernel_rfl) (of_decide_eq_true (by kernel_rfl)) k0_ bel lt0) trodAll_mk0), rfl, bel.frame _, fun h => by cases h⟩
theorem over : Rows.replyCodesUptoRow.holds Try.pinned (Rows.OpenSpec.upto Rows.replyCodesSpec) :=
  OpenClaim.holds_of_cond 3 Try.f3 rfl rfl rfl rfl rfl rfl rfl ⟨rfl, rfl, rfl, rfl, rfl⟩ rfl rfl rfl rfl rfl (by kernel_rfl) Try.func3 (by kernel_rfl)
    (of_decide_eq_true (by kernel_rfl)) (by unfold Func.isWrapper; first | (rw [if_pos (by decide +kernel)]; kernel_rfl) | (rw [if_neg (by decide +kernel)]; exact ⟨rfl, rfl⟩))
    (fun os started H enc _ F => lifted os started H enc F)
theorem proved : Rows.ReplyCodesUptoSaid := over
#print axioms proved
end Go.Proofs.Ytlhjdmpclfhoeaa.replyCodes
namespace Go.Proofs.Ytlhjdmpclfhoeaa
/-- The row, under a short name, for the claim. -/
theorem replyCodes_holds : Rows.ReplyCodesUptoSaid := replyCodes.proved
end Go.Proofs.Ytlhjdmpclfhoeaa
