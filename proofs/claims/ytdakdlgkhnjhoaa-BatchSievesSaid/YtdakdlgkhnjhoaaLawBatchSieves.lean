-- Written by wip/printx.py, a program of this work over the kit's print, for this claim.
import Derived.Test.YtdakdlgkhnjhoaaPAx13
import Derived.Test.YtdakdlgkhnjhoaaPAx14
import Derived.Test.YtdakdlgkhnjhoaaPureBatchSieves
import Derived.Test.YtdakdlgkhnjhoaaRows
import Derived.WalkKit
import Derived.ProofKit
import Derived.OpenShut
import Derived.ShutString
import Derived.ChangeOld
import Derived.Below
import Derived.SizedLaws
import Derived.Test.YtdakdlgkhnjhoaaWSized
import Derived.Test.YtdakdlgkhnjhoaaOpen
namespace Go.Proofs.Ytdakdlgkhnjhoaa.batchSieves
open Go.ChangeShapes Go.WideShapes Go.ChangeAt Go.RowKit Go.Proofs.YtdakdlgkhnjhoaaW.PrintWords Go.Proofs.Ytdakdlgkhnjhoaa.PA
open Go.ChangeMaps (open_string shut_string)
set_option linter.unusedVariables false
theorem own : ownKnob Try.prog.godebug = none := by kernel_rfl
theorem laidOut : laidOutB Try.prog = true := by kernel_rfl
set_option maxRecDepth 100000 in
set_option maxHeartbeats 2000000 in
theorem lifted (os : Os) (started : os.Started) (H : Type) (enc : TypeId × Value → H) :
    ReturnsInHanded {} Try.checked os 4 .any (Rows.batchSievesSpec.pre6 enc Try.prog Try.f4 Rows.batchSievesRow.domain false) (Rows.batchSievesSpec.post enc Try.prog Try.f4 false true false false) := by
  refine returnsInHanded_of_change_sized (C := Try.checked) own started (by kernel_rfl) Try.func4
    (ChangeSpec.witness6 (enc := enc) (C := Try.checked) false ⟨#[], #[.agg #[.slice none 0 0, .slice none 0 0, .int .i64 0, .bool false, .bool false, .bool false], .slice none 0 0], []⟩ 8 (by kernel_rfl) (by kernel_rfl) (by kernel_rfl) (by kernel_rfl)) ?_
  intro W base args ds gs before hval0 hW hcnd hsz0 _
  have hsz : (DataW.weightsEach Try.prog (Try.f4.params.toList ++ Rows.batchSievesSpec.plain.varTypes Try.prog) (ds ++ gs)).all (· ≤ reachBytes) = true := hsz0
  have hval : ∀ (j : Nat) t v, Try.f4.params[j]? = some t → args[j]? = some v → Value.okWide Try.prog W .any base t v := hval0
  have hW' := hW
  obtain ⟨p, q, hA0, hV, rfl, hfz, hnd⟩ := hW
  have hA : DataW.TrodAll enc Try.prog W 0 (fun _ => true) true Try.f4.params.toList args.toList ds p := hA0
  rw [Try.params4] at hA hval hsz
  obtain ⟨v0, vs0, d0, ds0, p0, q0, hargs, rfl, rfl, h0, r0⟩ := trodAll_cons hA
  obtain ⟨v1, vs1, d1, ds1, p1, q1, rfl, rfl, rfl, h1, r1⟩ := trodAll_cons r0
  obtain ⟨rfl, rfl, rfl⟩ := trodAll_nil r1
  obtain rfl : args = #[v0, v1] := by cases args; simp_all
  obtain ⟨rfl, rfl⟩ := trodVars_none hV
  obtain ⟨cs0, rfl, hn0⟩ := okWide_struct Try.underlying28 (hval 0 28 v0 rfl rfl)
  have k0_ := h0
  have lt0 : ∀ x ∈ p0, x.block < W.heap.size := by obtain ⟨m, hm⟩ := k0_; exact DataW.trod_lt m _ _ _ hm
  obtain ⟨fuel0, hf0⟩ := h0
  obtain ⟨y0, K0, hk0⟩ := opens28 hf0 (fun n_ hn_ => of_decide_eq_true (List.all_eq_true.1 hsz n_ (DataW.weights_mem_each (j := 0) (t := 28) rfl rfl n_ hn_)))
  obtain ⟨b0_0, b0_1, b0_2, b0_3, b0_4, b0_5⟩ := y0
  obtain ⟨A0_0, c0_0, A0_1, c0_1, e0, hc0_0, hr0_0, hc0_1, hr0_1⟩ := k28_open K0
  obtain ⟨cl0⟩ := cs0
  change cl0 = [.slice A0_0 b0_0.length c0_0, .slice A0_1 b0_1.length c0_1, .int .i64 b0_2, .bool b0_3, .bool b0_4, .bool b0_5] at e0
  subst e0
  obtain ⟨a1, len1, cap1, rfl⟩ := okWide_slice Try.underlying22 (hval 1 22 v1 rfl rfl)
  have k1_ := h1
  have lt1 : ∀ x ∈ p1, x.block < W.heap.size := by obtain ⟨m, hm⟩ := k1_; exact DataW.trod_lt m _ _ _ hm
  obtain ⟨fuel1, hf1⟩ := h1
  obtain ⟨l1, ⟨A1, c1, e1, hc1, hr1⟩, hk1⟩ := (Open.opens_slice Try.underlying22 opens38 (by kernel_rfl) (by kernel_rfl)) hf1 (fun n_ hn_ => of_decide_eq_true (List.all_eq_true.1 hsz n_ (DataW.weights_mem_each (j := 1) (t := 22) rfl rfl n_ hn_)))
  simp only [Value.cells, List.cons.injEq, Value.slice.injEq, and_true] at e1
  obtain ⟨rfl, rfl, rfl⟩ := e1
  (try clear hA0)
  (try clear hval0)
  (try clear hsz0)
  (try clear hsz)
  refine (terrierlaw17_BatchSieves.walk Pure.BatchSieves _ _ b0_0 _ _ b0_1 b0_2 b0_3 b0_4 b0_5 _ _ l1 W hk0 hr0_0 hc0_0 hr0_1 hc0_1 hk1 hr1 hc1).mono fun e W' ⟨he, bel⟩ => ?_
  subst he
  exact ⟨_, rfl, _, _, _, [], _, [], hW', trodAll_mk1 (shut_bool Try.underlying4 _), (trodAll_cons_mk (Below.trod laidOut (by kernel_rfl) (of_decide_eq_true (by kernel_rfl)) k0_ bel lt0) (trodAll_cons_mk (Below.trod laidOut (by kernel_rfl) (of_decide_eq_true (by kernel_rfl)) k1_ bel lt1) trodAll_mk0)), rfl, bel.frame _, fun h => by cases h⟩
theorem over : Rows.batchSievesRow.holds Try.pinned (OpenSpec.ofChange Rows.batchSievesSpec) :=
  OpenClaim.holds_of_wide 4 Try.f4 rfl rfl rfl rfl rfl rfl rfl ⟨rfl, rfl, rfl, rfl, rfl⟩ rfl rfl rfl rfl rfl (by kernel_rfl) Try.func4 (by kernel_rfl)
    (of_decide_eq_true (by kernel_rfl)) (by unfold Func.isWrapper; first | (rw [if_pos (by decide +kernel)]; kernel_rfl) | (rw [if_neg (by decide +kernel)]; exact ⟨rfl, rfl⟩))
    (fun os started H enc _ => lifted os started H enc)
theorem proved : Rows.BatchSievesSaid := over
#print axioms proved
end Go.Proofs.Ytdakdlgkhnjhoaa.batchSieves
namespace Go.Proofs.Ytdakdlgkhnjhoaa
/-- The row, under a short name, for the claim. -/
theorem batchSieves_holds : Rows.BatchSievesSaid := batchSieves.proved
end Go.Proofs.Ytdakdlgkhnjhoaa
