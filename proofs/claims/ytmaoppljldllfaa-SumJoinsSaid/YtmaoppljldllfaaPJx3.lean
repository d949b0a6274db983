-- Written by wip/printx.py, a program of this work over the kit's print, for this claim.
import Derived.Test.YtmaoppljldllfaaPJx0
import Derived.Test.YtmaoppljldllfaaPJx1
import Derived.Test.YtmaoppljldllfaaPJx2
namespace Go.Proofs.Ytmaoppljldllfaa.PJ
open Go.RowKit Go.Proofs.YtmaoppljldllfaaW.PrintWords Go.Proofs.YtmaoppljldllfaaW.PrintLast Go.Proofs.YtmaoppljldllfaaW.PrintMore
attribute [local go_sem] max2_int min2_int max_two min_two max_three min_three max_four min_four   -- for this text's walks alone
attribute [local go_sem] Ext.pick_u8 Ext.pick_u32 Ext.pick_u64
set_option linter.unusedVariables false
set_option linter.unusedSimpArgs false

@[reducible] def zb4_0 : Array Bool := #[true, true, true, true, true, true, true, true, true, true, false, false, false, false, false, false, false, false, false, false, false, false, false, false, false, false, false, false, false, false, false, false, false, false, false, false]
@[reducible] def zb4_1 : Array Bool := #[true, true, true, true, true, true, true, false, true, true, false, false, false, false, false, false, false, false, false, false, false, false, false, false, false, false, false, false, false, false, false, false, false, false, false, false]
@[reducible] def zb4_2 : Array Bool := #[true, true, true, true, true, true, true, true, true, true, true, true, true, true, true, true, true, true, false, false, false, false, false, false, false, false, false, false, false, false, false, false, false, false, false, false]
@[reducible] def zb4_3 : Array Bool := #[true, true, true, true, true, true, true, true, true, true, true, true, true, true, true, false, true, true, false, false, false, false, false, false, false, false, false, false, false, false, false, false, false, false, false, false]
@[reducible] def zb4_4 : Array Bool := #[true, true, true, true, true, true, true, false, true, false, false, false, false, false, false, false, false, false, false, false, false, false, false, false, false, false, false, false, false, false, false, false, false, false, false, false]
@[reducible] def zb4_5 : Array Bool := #[true, true, true, true, true, true, false, false, true, true, false, false, false, false, false, false, false, false, false, false, false, false, false, false, false, false, false, false, false, false, false, false, false, false, false, false]
@[reducible] def zb4_6 : Array Bool := #[true, true, true, true, true, true, true, true, true, false, false, false, false, false, false, false, false, false, false, false, false, false, false, false, false, false, false, false, false, false, false, false, false, false, false, false]
@[reducible] def zb4_7 : Array Bool := #[true, true, true, true, true, true, true, true, true, true, true, true, true, true, true, true, true, false, false, false, false, false, false, false, false, false, false, false, false, false, false, false, false, false, false, false]
@[reducible] def zb4_8 : Array Bool := #[true, true, true, true, true, true, true, true, true, true, true, true, true, true, true, true, true, true, true, true, true, true, true, true, true, true, true, true, true, true, true, true, false, false, false, false]
@[reducible] def zb4_9 : Array Bool := #[true, true, true, true, true, true, true, true, true, true, true, true, true, true, false, false, true, false, false, false, false, false, false, false, false, false, false, false, false, false, false, false, false, false, false, false]
@[reducible] def zb4_10 : Array Bool := #[true, true, true, true, true, true, true, true, true, true, true, true, true, true, true, false, true, false, false, false, false, false, false, false, false, false, false, false, false, false, false, false, false, false, false, false]
@[reducible] def zb4_11 : Array Bool := #[true, true, true, true, true, true, true, true, true, true, true, true, true, true, false, false, true, true, false, false, false, false, false, false, false, false, false, false, false, false, false, false, false, false, false, false]
@[reducible] def zb4_12 : Array Bool := #[true, true, true, true, true, true, true, true, true, true, true, true, true, true, true, true, true, true, true, true, true, true, true, true, true, true, true, true, true, true, true, false, false, false, false, false]
@[reducible] def zb4_13 : Array Bool := #[false, false, false, false, false, false, false, false, false, false, false, false, false, false, false, false, false, false, false, false, false, false, false, false, false, false, false, false, false, false, false, false, false, false, false, false]
@[reducible] def zb4_14 : Array Bool := #[true, false, false, false, false, false, false, false, false, false, false, false, false, false, false, false, false, false, false, false, false, false, false, false, false, false, false, false, false, false, false, false, false, false, false, false]
@[reducible] def zb4_15 : Array Bool := #[true, true, false, false, false, false, false, false, false, false, false, false, false, false, false, false, false, false, false, false, false, false, false, false, false, false, false, false, false, false, false, false, false, false, false, false]
@[reducible] def zb4_16 : Array Bool := #[true, true, true, false, false, false, false, false, false, false, false, false, false, false, false, false, false, false, false, false, false, false, false, false, false, false, false, false, false, false, false, false, false, false, false, false]
@[reducible] def zb4_17 : Array Bool := #[true, true, true, true, false, false, false, false, false, false, false, false, false, false, false, false, false, false, false, false, false, false, false, false, false, false, false, false, false, false, false, false, false, false, false, false]
@[reducible] def zb4_18 : Array Bool := #[true, true, true, true, true, false, false, false, false, false, false, false, false, false, false, false, false, false, false, false, false, false, false, false, false, false, false, false, false, false, false, false, false, false, false, false]
@[reducible] def zb4_19 : Array Bool := #[true, true, true, true, true, true, false, false, false, false, false, false, false, false, false, false, false, false, false, false, false, false, false, false, false, false, false, false, false, false, false, false, false, false, false, false]
@[reducible] def zb4_20 : Array Bool := #[true, true, true, true, true, true, false, false, true, false, false, false, false, false, false, false, false, false, false, false, false, false, false, false, false, false, false, false, false, false, false, false, false, false, false, false]
@[reducible] def zb4_21 : Array Bool := #[true, true, true, true, true, true, true, true, true, true, true, false, false, false, false, false, false, false, false, false, false, false, false, false, false, false, false, false, false, false, false, false, false, false, false, false]
@[reducible] def zb4_22 : Array Bool := #[true, true, true, true, true, true, true, true, true, true, true, true, false, false, false, false, false, false, false, false, false, false, false, false, false, false, false, false, false, false, false, false, false, false, false, false]
@[reducible] def zb4_23 : Array Bool := #[true, true, true, true, true, true, true, true, true, true, true, true, true, false, false, false, false, false, false, false, false, false, false, false, false, false, false, false, false, false, false, false, false, false, false, false]
@[reducible] def zb4_24 : Array Bool := #[true, true, true, true, true, true, true, true, true, true, true, true, true, true, false, false, false, false, false, false, false, false, false, false, false, false, false, false, false, false, false, false, false, false, false, false]
@[reducible] def zb4_25 : Array Bool := #[true, true, true, true, true, true, true, true, true, true, true, true, true, true, true, true, true, true, true, false, false, false, false, false, false, false, false, false, false, false, false, false, false, false, false, false]
@[reducible] def zb4_26 : Array Bool := #[true, true, true, true, true, true, true, true, true, true, true, true, true, true, true, true, true, true, true, true, false, false, false, false, false, false, false, false, false, false, false, false, false, false, false, false]
@[reducible] def zb4_27 : Array Bool := #[true, true, true, true, true, true, true, true, true, true, true, true, true, true, true, true, true, true, true, true, true, false, false, false, false, false, false, false, false, false, false, false, false, false, false, false]
@[reducible] def zb4_28 : Array Bool := #[true, true, true, true, true, true, true, true, true, true, true, true, true, true, true, true, true, true, true, true, true, true, false, false, false, false, false, false, false, false, false, false, false, false, false, false]
@[reducible] def zb4_29 : Array Bool := #[true, true, true, true, true, true, true, true, true, true, true, true, true, true, true, true, true, true, true, true, true, true, true, false, false, false, false, false, false, false, false, false, false, false, false, false]
@[reducible] def zb4_30 : Array Bool := #[true, true, true, true, true, true, true, true, true, true, true, true, true, true, true, true, true, true, true, true, true, true, true, true, false, false, false, false, false, false, false, false, false, false, false, false]
@[reducible] def zb4_31 : Array Bool := #[true, true, true, true, true, true, true, true, true, true, true, true, true, true, true, true, true, true, true, true, true, true, true, true, true, false, false, false, false, false, false, false, false, false, false, false]
@[reducible] def zb4_32 : Array Bool := #[true, true, true, true, true, true, true, true, true, true, true, true, true, true, true, true, true, true, true, true, true, true, true, true, true, true, false, false, false, false, false, false, false, false, false, false]
@[reducible] def zb4_33 : Array Bool := #[true, true, true, true, true, true, true, true, true, true, true, true, true, true, true, true, true, true, true, true, true, true, true, true, true, true, true, false, false, false, false, false, false, false, false, false]
@[reducible] def zb4_34 : Array Bool := #[true, true, true, true, true, true, true, true, true, true, true, true, true, true, true, true, true, true, true, true, true, true, true, true, true, true, true, true, false, false, false, false, false, false, false, false]
@[reducible] def zb4_35 : Array Bool := #[true, true, true, true, true, true, true, true, true, true, true, true, true, true, true, true, true, true, true, true, true, true, true, true, true, true, true, true, true, false, true, true, false, false, false, false]
@[reducible] def zb4_36 : Array Bool := #[true, true, true, true, true, true, true, true, true, true, true, true, true, true, true, true, true, true, true, true, true, true, true, true, true, true, true, true, true, true, true, true, true, false, false, false]
@[reducible] def zb4_37 : Array Bool := #[true, true, true, true, true, true, true, true, true, true, true, true, true, true, true, true, true, true, true, true, true, true, true, true, true, true, true, true, true, true, true, true, true, true, false, false]
@[reducible] def zb4_38 : Array Bool := #[true, true, true, true, true, true, true, true, true, true, true, true, true, true, true, true, true, true, true, true, true, true, true, true, true, true, true, true, true, true, true, true, true, true, true, false]
@[reducible] def zb4_39 : Array Bool := #[true, true, true, true, true, true, true, true, true, true, true, true, true, true, true, true, true, true, true, true, true, true, true, true, true, true, true, true, true, true, true, true, true, true, true, true]
@[reducible] def zb4_40 : Array Bool := #[true, true, true, true, true, true, true, true, true, true, true, true, true, true, true, true, true, true, true, true, true, true, true, true, true, true, true, true, false, false, true, false, false, false, false, false]
@[reducible] def zb4_41 : Array Bool := #[true, true, true, true, true, true, true, true, true, true, true, true, true, true, true, true, true, true, true, true, true, true, true, true, true, true, true, true, true, false, false, false, false, false, false, false]
@[reducible] def zb4_42 : Array Bool := #[true, true, true, true, true, true, true, true, true, true, true, true, true, true, true, true, true, true, true, true, true, true, true, true, true, true, true, true, true, false, true, false, false, false, false, false]
@[reducible] def zb4_43 : Array Bool := #[true, true, true, true, true, true, true, true, true, true, true, true, true, true, true, true, true, true, true, true, true, true, true, true, true, true, true, true, false, false, true, true, false, false, false, false]
@[reducible] def zb4_44 : Array Bool := #[true, true, true, true, true, true, true, true, true, true, true, true, true, true, true, true, true, true, true, true, true, true, true, true, true, true, true, true, true, true, false, false, false, false, false, false]
@[reducible] def ok4_0 (p0 : Nat → Prop) (w1 : World)  : Nat → Prop := fun k_ => (p0 k_ ∨ w1.heap.size ≤ k_)
@[reducible] def ok4_1 (p0 : Nat → Prop) (w1 : World) (v0 : Value) (v1 : Value) (v2 : Value) (v3 : Value) (v4 : Value) (v5 : Value) : Nat → Prop := fun k_ => (p0 k_ ∨ w1.heap.size ≤ k_) ∧ some k_ ≠ v0.ownBlock ∧ some k_ ≠ v1.ownBlock ∧ some k_ ≠ v2.ownBlock ∧ some k_ ≠ v3.ownBlock ∧ some k_ ≠ v4.ownBlock ∧ some k_ ≠ v5.ownBlock
@[reducible] def ok4_2 (p0 : Nat → Prop) (w1 : World) (v0 : Value) (v1 : Value) (v2 : Value) (v3 : Value) (v4 : Value) : Nat → Prop := fun k_ => (p0 k_ ∨ w1.heap.size ≤ k_) ∧ some k_ ≠ v0.ownBlock ∧ some k_ ≠ v1.ownBlock ∧ some k_ ≠ v2.ownBlock ∧ some k_ ≠ v3.ownBlock ∧ some k_ ≠ v4.ownBlock
@[reducible] def ok4_3 (p0 : Nat → Prop) (w1 : World) (v0 : Value) (v1 : Value) (v2 : Value) (v3 : Value) : Nat → Prop := fun k_ => (p0 k_ ∨ w1.heap.size ≤ k_) ∧ some k_ ≠ v0.ownBlock ∧ some k_ ≠ v1.ownBlock ∧ some k_ ≠ v2.ownBlock ∧ some k_ ≠ v3.ownBlock
@[reducible] def ok4_4 (p0 : Nat → Prop) (w1 : World) (v0 : Value) (v1 : Value) (v2 : Value) : Nat → Prop := fun k_ => (p0 k_ ∨ w1.heap.size ≤ k_) ∧ some k_ ≠ v0.ownBlock ∧ some k_ ≠ v1.ownBlock ∧ some k_ ≠ v2.ownBlock
@[reducible] def ok4_5 (p0 : Nat → Prop) (w1 : World) (v0 : Value) (v1 : Value) : Nat → Prop := fun k_ => (p0 k_ ∨ w1.heap.size ≤ k_) ∧ some k_ ≠ v0.ownBlock ∧ some k_ ≠ v1.ownBlock
@[reducible] def ok4_6 (p0 : Nat → Prop) (w1 : World) (v0 : Value) : Nat → Prop := fun k_ => (p0 k_ ∨ w1.heap.size ≤ k_) ∧ some k_ ≠ v0.ownBlock
/-! ### terrierlaw02_SumJoins: function 4 -/
mutual
def terrierlaw02_SumJoins.j0 : Nat → List Int → Int → Bool → Option (Bool)
 | 0, _, _, _ => none
 | k + 1, x0, x1, x11 => if x11 = true then ((terrierlaw02_lives.f k).bind fun t113 => (some t113)) else (terrierlaw02_SumJoins.j1 k x0 x1)
def terrierlaw02_SumJoins.j1 : Nat → List Int → Int → Option (Bool)
 | 0, _, _ => none
 | k + 1, x0, x1 => if (IntKind.u64.wrap (wrap64 ((x0.length : Int) + 1))) = 0 then (none) else (if 0 ≤ (wrap64 (Int.tmod (IntKind.u64.wrap (x1)) (IntKind.u64.wrap (wrap64 ((x0.length : Int) + 1))))) then (if (wrap64 (Int.tmod (IntKind.u64.wrap (x1)) (IntKind.u64.wrap (wrap64 ((x0.length : Int) + 1))))) ≤ (x0.length : Int) then ((some (x0.take ((wrap64 (Int.tmod (IntKind.u64.wrap (x1)) (IntKind.u64.wrap (wrap64 ((x0.length : Int) + 1))))) : Int).toNat : List Int)).bind fun y114 => ((some (x0.drop ((wrap64 (Int.tmod (IntKind.u64.wrap (x1)) (IntKind.u64.wrap (wrap64 ((x0.length : Int) + 1))))) : Int).toNat : List Int)).bind fun y119 => ((sum_Sum.f k (([y114, y119] : List (List Int)))).bind fun t127 => ((sum_Sum.f k (([x0] : List (List Int)))).bind fun t131 => (if t127 = t131 then ((sum_Sum.f k (([x0, []] : List (List Int)))).bind fun t135 => ((sum_Sum.f k (([x0] : List (List Int)))).bind fun t139 => (if t135 = t139 then ((sum_Sum.f k (([[], y114, [], y119] : List (List Int)))).bind fun t153 => ((sum_Sum.f k (([x0] : List (List Int)))).bind fun t157 => (some (t153 == t157)))) else (some false)))) else (some false)))))) else (none)) else (none))
end
def terrierlaw02_SumJoins.f (k : Nat) (l0 : List Int) (a1 : Int) : Option (Bool) := (terrierlaw02_lives.f k).bind fun t112 => (if t112 = true then (terrierlaw02_SumJoins.j0 k l0 a1 (decide ((l0.length : Int) > 4096))) else (terrierlaw02_SumJoins.j0 k l0 a1 true))
theorem terrierlaw02_SumJoins.mono_l : ∀ k, (∀ y0 y1 y2, LeO (terrierlaw02_SumJoins.j0 k y0 y1 y2) (terrierlaw02_SumJoins.j0 (k + 1) y0 y1 y2)) ∧ (∀ y0 y1, LeO (terrierlaw02_SumJoins.j1 k y0 y1) (terrierlaw02_SumJoins.j1 (k + 1) y0 y1))
 | 0 => ⟨fun _ _ _ r h => by simp [terrierlaw02_SumJoins.j0] at h, fun _ _ r h => by simp [terrierlaw02_SumJoins.j1] at h⟩
 | k + 1 => by
  obtain ⟨ih0, ih1⟩ := terrierlaw02_SumJoins.mono_l k
  refine ⟨?_, ?_⟩
  ·
   intro y0 y1 y2
   unfold terrierlaw02_SumJoins.j0
   repeat' first
   | (with_reducible exact ih0 _ _ _)
   | (with_reducible exact ih1 _ _)
   | (with_reducible exact sum_Sum.mono _ _)
   | (with_reducible exact terrierlaw02_lives.mono _)
   | (with_reducible exact LeO.refl _)
   | (with_reducible exact LeO.none _)
   | (with_reducible refine LeO.ite ?_ ?_)
   | (with_reducible refine LeO.bind ?_ (fun _ => ?_))
   | exact ih0 _ _ _
   | exact ih1 _ _
   | exact sum_Sum.mono _ _
   | exact terrierlaw02_lives.mono _
   | exact LeO.none _
   | refine LeO.ite ?_ ?_
   | refine LeO.bind ?_ (fun _ => ?_)
  ·
   intro y0 y1
   unfold terrierlaw02_SumJoins.j1
   repeat' first
   | (with_reducible exact ih0 _ _ _)
   | (with_reducible exact ih1 _ _)
   | (with_reducible exact sum_Sum.mono _ _)
   | (with_reducible exact terrierlaw02_lives.mono _)
   | (with_reducible exact LeO.refl _)
   | (with_reducible exact LeO.none _)
   | (with_reducible refine LeO.ite ?_ ?_)
   | (with_reducible refine LeO.bind ?_ (fun _ => ?_))
   | exact ih0 _ _ _
   | exact ih1 _ _
   | exact sum_Sum.mono _ _
   | exact terrierlaw02_lives.mono _
   | exact LeO.none _
   | refine LeO.ite ?_ ?_
   | refine LeO.bind ?_ (fun _ => ?_)
theorem terrierlaw02_SumJoins.mono : ∀ a0 a1 k, LeO (terrierlaw02_SumJoins.f k a0 a1) (terrierlaw02_SumJoins.f (k + 1) a0 a1) := by
 intro a0 a1 k
 obtain ⟨ih0, ih1⟩ := terrierlaw02_SumJoins.mono_l k
 unfold terrierlaw02_SumJoins.f
 repeat' first
   | (with_reducible exact ih0 _ _ _)
   | (with_reducible exact ih1 _ _)
   | (with_reducible exact sum_Sum.mono _ _)
   | (with_reducible exact terrierlaw02_lives.mono _)
   | (with_reducible exact LeO.refl _)
   | (with_reducible exact LeO.none _)
   | (with_reducible refine LeO.ite ?_ ?_)
   | (with_reducible refine LeO.bind ?_ (fun _ => ?_))
   | exact ih0 _ _ _
   | exact ih1 _ _
   | exact sum_Sum.mono _ _
   | exact terrierlaw02_lives.mono _
   | exact LeO.none _
   | refine LeO.ite ?_ ?_
   | refine LeO.bind ?_ (fun _ => ?_)
def terrierlaw02_SumJoins.T4 : Bool × List (List Nat × List Nat) := (true, [([], []), ([], []), ([0, 1], [0, 1]), ([], []), ([], []), ([3, 4], [3, 4]), ([2, 5], [2, 5]), ([6], [6]), ([], []), ([8], [8]), ([9, 7], [9]), ([7, 10], [7, 10]), ([11, 10], [11]), ([12], [12]), ([13, 12], [12, 13]), ([14, 12, 12], [12, 14]), ([12], [12]), ([16, 12], [12, 16]), ([17, 15, 12], [12, 17]), ([15, 18, 12], [12, 15, 18]), ([12, 19], [12, 19]), ([20, 18], [20]), ([21], [21]), ([21], [21]), ([22, 23, 21], [21, 22, 23]), ([21], [21]), ([21], [21]), ([25, 26, 21], [21, 25, 26]), ([24, 27, 21], [21, 24, 27]), ([28, 21, 21], [21, 28]), ([21], [21]), ([30, 21], [21, 30]), ([31, 29, 21], [21, 31]), ([29, 32, 21], [21, 29, 32]), ([21, 33], [21, 33]), ([34, 32, 0, 1, 2, 3, 4, 5, 6, 7, 8, 9, 10, 11, 12, 13, 14, 15, 16, 17, 18, 19, 20, 21, 22, 23, 24, 25, 26, 27, 28, 29, 30, 31, 32, 33, 34], [34])])
def terrierlaw02_SumJoins.B4 : List Nat := [0, 0, 3, 0, 0, 24, 63, 127, 0, 256, 1023, 2047, 4095, 8191, 16383, 32767, 8191, 73727, 262143, 524287, 1048575, 2097151, 4194303, 4194303, 16777215, 4194303, 4194303, 104857599, 268435455, 536870911, 4194303, 1077936127, 4294967295, 8589934591, 17179869183, 34359738367]
theorem terrierlaw02_SumJoins.tab4 : rtab .any (opsOf Try.f4 4) = terrierlaw02_SumJoins.T4 := by kernel_rfl
theorem terrierlaw02_SumJoins.bits4 : waitsOk terrierlaw02_SumJoins.T4.2 terrierlaw02_SumJoins.B4 = true := by kernel_rfl
set_option maxHeartbeats 8000000 in
set_option maxRecDepth 100000 in
theorem terrierlaw02_SumJoins.calls (k : Nat) (P0_ : Nat → Prop) (A0 : Option Addr) (c0 : Nat) (l0 : List Int) (a1 : Int) (r : Bool) (w : World) (hs0 : Kd.V (Kd.int .u8) 5 w w.heap.size (fun k_ => P0_ k_) (.slice A0 l0.length c0) l0) (h : terrierlaw02_SumJoins.f k l0 a1 = some r) :
  Calls Try.prog 4 #[.slice A0 l0.length c0, .int .i64 a1] w fun e w' => e = .returned (.bool r) ∧ Below w.heap.size w w' := by
 have HO0 := Ext.a (show Kd.V (Kd.int .u8) 5 w w.heap.size (ok4_0 P0_ w) (.slice A0 l0.length c0) l0 from Kd.V_mono hs0 (fun k_ hk => .inl hk))
 have HB := Ext.a (Below.refl w.heap.size w)
 have H : ((terrierlaw02_lives.f k).bind fun t112 => (if t112 = true then (terrierlaw02_SumJoins.j0 k l0 a1 (decide ((l0.length : Int) > 4096))) else (terrierlaw02_SumJoins.j0 k l0 a1 true))) = some r := h
 clear h
 have HC3 := Aside0.mk H
 clear H
 go_enter Try.func4, Try.ntmps4
 go_upto_region 1 with (fail)
 go_cut [11] (fun v11 wc => ∃ (kq : Nat) (x11_2 : Bool), v11 = .bool x11_2 ∧ Aside0 (terrierlaw02_SumJoins.j0 kq l0 a1 x11_2 = some r) ∧ Aside0 (kq ≤ k) ∧ Aside0 (Kd.V (Kd.int .u8) 5 wc w.heap.size (ok4_0 P0_ w) (.slice A0 l0.length c0) l0) ∧ Aside0 (Below w.heap.size w wc))
 case first =>
  have H := HC3.out
  clear HC3
  replace H := Option.bind_eq_some_iff.mp H
  obtain ⟨t112, A40, H⟩ := H
  replace H : (if t112 = true then (terrierlaw02_SumJoins.j0 k l0 a1 (decide ((l0.length : Int) > 4096))) else (terrierlaw02_SumJoins.j0 k l0 a1 true)) = some r := H
  have A4 := Aside0.mk A40
  clear A40
  by_cases c5 : t112 = true
  ·
   subst c5
   have H1 : (terrierlaw02_SumJoins.j0 k l0 a1 (decide ((l0.length : Int) > 4096))) = some r := by rw [if_pos rfl] at H; exact H
   clear H
   have H := H1
   clear H1
   have H' := Aside0.mk H
   clear H
   go_wp2_with (first | ((with_reducible refine gate_callee (f := 8) rfl ?_); refine goesL_ (some 5) rfl rfl Try.func8 (by kernel_rfl) rfl #[] rfl (by (try simp only [List.map_toArray, List.map_cons, List.map_nil]); first | done | rfl | (simp only [List.length_drop, List.length_take]; rfl)) ?_; (with_reducible refine (terrierlaw02_lives.calls k  true _ A4.out).mono ?_); rintro e w6 ⟨rfl, hb⟩; refine ⟨_, rfl, ?_⟩; have n0_ := Ext.a (Kd.V_below (Ext.nV HO0.out) hb); have n1_ := Ext.a (below_step (Ext.nB HB.out) hb); clear HO0 HB; have HO0 := n0_; have HB := n1_; clear n0_ n1_; (try clear hb); (try clear hb2); (try clear hk); (try clear hi)))
   go_meet
   case rel => exact ⟨_, (decide ((l0.length : Int) > 4096)), (by first | rfl | (simp; done) | (simp [*]; done)), H', ⟨by first | omega | exact Nat.le_refl _⟩, ⟨by (with_reducible repeat (first | apply Kd.V_alloc | apply Kd.V_drewN | apply Kd.V_drew)); exact HO0.out⟩, ⟨by repeat (first | (with_reducible first | exact HB.out | apply Ext.ba | apply Ext.bn | apply Ext.bd) | exact HB.out | exact .refl _ _)⟩⟩
  ·
   replace c5 := Bool.eq_false_iff.mpr c5
   subst c5
   have H1 : (terrierlaw02_SumJoins.j0 k l0 a1 true) = some r := by rw [if_neg (show ¬ (false = true) by decide)] at H; exact H
   clear H
   have H := H1
   clear H1
   have H' := Aside0.mk H
   clear H
   go_wp2_with (first | ((with_reducible refine gate_callee (f := 8) rfl ?_); refine goesL_ (some 5) rfl rfl Try.func8 (by kernel_rfl) rfl #[] rfl (by (try simp only [List.map_toArray, List.map_cons, List.map_nil]); first | done | rfl | (simp only [List.length_drop, List.length_take]; rfl)) ?_; (with_reducible refine (terrierlaw02_lives.calls k  false _ A4.out).mono ?_); rintro e w7 ⟨rfl, hb⟩; refine ⟨_, rfl, ?_⟩; have n0_ := Ext.a (Kd.V_below (Ext.nV HO0.out) hb); have n1_ := Ext.a (below_step (Ext.nB HB.out) hb); clear HO0 HB; have HO0 := n0_; have HB := n1_; clear n0_ n1_; (try clear hb); (try clear hb2); (try clear hk); (try clear hi)))
   go_meet
   case rel => exact ⟨_, (true), (by first | rfl | (simp; done) | (simp [*]; done)), H', ⟨by first | omega | exact Nat.le_refl _⟩, ⟨by (with_reducible repeat (first | apply Kd.V_alloc | apply Kd.V_drewN | apply Kd.V_drew)); exact HO0.out⟩, ⟨by repeat (first | (with_reducible first | exact HB.out | apply Ext.ba | apply Ext.bn | apply Ext.bd) | exact HB.out | exact .refl _ _)⟩⟩
 case rest =>
  clear HC3
  try clear p2
  try clear c4
  try clear c5
  obtain ⟨kq, x11_2, rfl, HA, HJ2, HO_0, HB⟩ := hcut
  cases kq with
  | zero => exact absurd HA.out (by simp [terrierlaw02_SumJoins.j0])
  | succ kj2 =>
   have H := HA.out
   clear HA
   simp only [terrierlaw02_SumJoins.j0] at H
   have HC8 := Aside0.mk H
   clear H
   go_upto_if 11 with (fail)
   go_cut [] (fun wc => ∃ (kq : Nat), Aside0 (terrierlaw02_SumJoins.j1 kq l0 a1 = some r) ∧ Aside0 (kq ≤ kj2) ∧ Aside0 (Kd.V (Kd.int .u8) 5 wc w.heap.size (ok4_0 P0_ w) (.slice A0 l0.length c0) l0) ∧ Aside0 (Below w.heap.size w wc))
   case first =>
    have H := HC8.out
    clear HC8
    by_cases c9 : x11_2 = true
    ·
     subst c9
     have H1 : ((terrierlaw02_lives.f kj2).bind fun t113 => (some t113)) = some r := by rw [if_pos rfl] at H; exact H
     clear H
     have H := H1
     clear H1
     replace H := Option.bind_eq_some_iff.mp H
     obtain ⟨t113, A100, H⟩ := H
     replace H : (some t113) = some r := H
     have A10 := Aside0.mk A100
     clear A100
     obtain rfl := Option.some.inj H
     go_wp2_with (first | ((with_reducible refine gate_callee (f := 8) rfl ?_); refine goesL_ (some 12) rfl rfl Try.func8 (by kernel_rfl) rfl #[] rfl (by (try simp only [List.map_toArray, List.map_cons, List.map_nil]); first | done | rfl | (simp only [List.length_drop, List.length_take]; rfl)) ?_; (with_reducible refine (terrierlaw02_lives.calls kj2  t113 _ A10.out).mono ?_); rintro e w11 ⟨rfl, hb⟩; refine ⟨_, rfl, ?_⟩; have n0_ := Ext.a (Kd.V_below (Ext.nV HO_0.out) hb); have n1_ := Ext.a (below_step (Ext.nB HB.out) hb); clear HO_0 HB; have HO_0 := n0_; have HB := n1_; clear n0_ n1_; (try clear hb); (try clear hb2); (try clear hk); (try clear hi)))
     go_ret
     exact ⟨by first | rfl | (simp [errW_none, errW_some] <;> rfl) | (simp [*, errW_none, errW_some] <;> rfl), by repeat (first | (with_reducible first | exact HB.out | apply Ext.ba | apply Ext.bn | apply Ext.bd) | exact HB.out | exact .refl _ _)⟩
    ·
     replace c9 := Bool.eq_false_iff.mpr c9
     subst c9
     have H1 : (terrierlaw02_SumJoins.j1 kj2 l0 a1) = some r := by rw [if_neg (show ¬ (false = true) by decide)] at H; exact H
     clear H
     have H := H1
     clear H1
     have H' := Aside0.mk H
     clear H
     go_wp2
     go_meet
     case rel => exact ⟨_, H', ⟨by have := HJ2.out; first | omega | exact Nat.le_refl _⟩, ⟨by (with_reducible repeat (first | apply Kd.V_alloc | apply Kd.V_drewN | apply Kd.V_drew)); exact HO_0.out⟩, ⟨by repeat (first | (with_reducible first | exact HB.out | apply Ext.ba | apply Ext.bn | apply Ext.bd) | exact HB.out | exact .refl _ _)⟩⟩
   case rest =>
    clear HC8
    try clear p2
    try clear c4
    try clear c5
    try clear c8
    try clear c9
    try clear p2
    obtain ⟨kq, HA, HJ7, HO_0, HB⟩ := hcut
    cases kq with
    | zero => exact absurd HA.out (by simp [terrierlaw02_SumJoins.j1])
    | succ kj7 =>
     have H := HA.out
     clear HA
     simp only [terrierlaw02_SumJoins.j1] at H
     by_cases c12 : (IntKind.u64.wrap (wrap64 ((l0.length : Int) + 1))) = 0
     · rw [if_pos c12] at H; exact absurd H (by simp)
     ·
      rw [if_neg c12] at H
      have c12b0 : ((IntKind.u64.wrap (wrap64 ((l0.length : Int) + 1))) == 0) = false := beq_eq_false_iff_ne.mpr c12
      have c12b1 : ((IntKind.u64.wrap (wrap64 ((l0.length : Int) + 1))) != 0) = true := bne_iff_ne.mpr c12
      obtain ⟨ji13, hji13⟩ : ∃ j_ : Int, (wrap64 (Int.tmod (IntKind.u64.wrap (a1)) (IntKind.u64.wrap (wrap64 ((l0.length : Int) + 1))))) = j_ := ⟨_, rfl⟩
      replace H : (if 0 ≤ (ji13) then (if (ji13) ≤ (l0.length : Int) then ((some (l0.take ((ji13) : Int).toNat : List Int)).bind fun y114 => ((some (l0.drop ((ji13) : Int).toNat : List Int)).bind fun y119 => ((sum_Sum.f kj7 (([y114, y119] : List (List Int)))).bind fun t127 => ((sum_Sum.f kj7 (([l0] : List (List Int)))).bind fun t131 => (if t127 = t131 then ((sum_Sum.f kj7 (([l0, []] : List (List Int)))).bind fun t135 => ((sum_Sum.f kj7 (([l0] : List (List Int)))).bind fun t139 => (if t135 = t139 then ((sum_Sum.f kj7 (([[], y114, [], y119] : List (List Int)))).bind fun t153 => ((sum_Sum.f kj7 (([l0] : List (List Int)))).bind fun t157 => (some (t153 == t157)))) else (some false)))) else (some false)))))) else (none)) else (none)) = some r := by first | (rw [hji13] at H; exact H) | (simp only [hji13] at H ⊢; exact H)
      have hji13w : (IntKind.i64.wrap (Int.tmod (IntKind.u64.wrap (a1)) (IntKind.u64.wrap (wrap64 ((l0.length : Int) + 1))))) = ji13 := (i64_w _).trans hji13
      by_cases c14 : 0 ≤ (ji13)
      ·
       rw [if_pos c14] at H
       have c14b0 := eq_true c14
       have c14b1 : decide (0 ≤ (ji13)) = true := decide_eq_true c14
       clear c14
       by_cases c15 : (ji13) ≤ (l0.length : Int)
       ·
        rw [if_pos c15] at H
        have c15b0 := eq_true c15
        have c15b1 : decide ((ji13) ≤ (l0.length : Int)) = true := decide_eq_true c15
        clear c15
        obtain ⟨y114, hy114⟩ : ∃ y_ : List Int, y_ = (l0.take ((ji13) : Int).toNat) := ⟨_, rfl⟩
        replace H : ((some (l0.drop ((ji13) : Int).toNat : List Int)).bind fun y119 => ((sum_Sum.f kj7 (([y114, y119] : List (List Int)))).bind fun t127 => ((sum_Sum.f kj7 (([l0] : List (List Int)))).bind fun t131 => (if t127 = t131 then ((sum_Sum.f kj7 (([l0, []] : List (List Int)))).bind fun t135 => ((sum_Sum.f kj7 (([l0] : List (List Int)))).bind fun t139 => (if t135 = t139 then ((sum_Sum.f kj7 (([[], y114, [], y119] : List (List Int)))).bind fun t153 => ((sum_Sum.f kj7 (([l0] : List (List Int)))).bind fun t157 => (some (t153 == t157)))) else (some false)))) else (some false))))) = some r := by first | (rw [hy114]; with_reducible exact H) | (have H2_ := (Option.bind_some _ _).symm.trans H; rw [hy114]; with_reducible exact H2_) | (have H2_ := (Option.bind_some _ _).symm.trans H; with_reducible exact H2_) | with_reducible exact H | (rw [hy114]; exact H) | exact H
        have Ny114 := Aside0.mk hy114
        clear hy114
        have c16b0 := eq_true (of_decide_eq_true (by first | (with_reducible assumption) | assumption) : 0 ≤ (ji13))
        have c17b0 := eq_true (of_decide_eq_true (by first | (with_reducible assumption) | assumption) : (ji13) ≤ (l0.length : Int))
        obtain ⟨y119, hy119⟩ : ∃ y_ : List Int, y_ = (l0.drop ((ji13) : Int).toNat) := ⟨_, rfl⟩
        replace H : ((sum_Sum.f kj7 (([y114, y119] : List (List Int)))).bind fun t127 => ((sum_Sum.f kj7 (([l0] : List (List Int)))).bind fun t131 => (if t127 = t131 then ((sum_Sum.f kj7 (([l0, []] : List (List Int)))).bind fun t135 => ((sum_Sum.f kj7 (([l0] : List (List Int)))).bind fun t139 => (if t135 = t139 then ((sum_Sum.f kj7 (([[], y114, [], y119] : List (List Int)))).bind fun t153 => ((sum_Sum.f kj7 (([l0] : List (List Int)))).bind fun t157 => (some (t153 == t157)))) else (some false)))) else (some false)))) = some r := by first | (rw [hy119]; with_reducible exact H) | (have H2_ := (Option.bind_some _ _).symm.trans H; rw [hy119]; with_reducible exact H2_) | (have H2_ := (Option.bind_some _ _).symm.trans H; with_reducible exact H2_) | with_reducible exact H | (rw [hy119]; exact H) | exact H
        have Ny119 := Aside0.mk hy119
        clear hy119
        obtain ⟨y124, hy124⟩ : ∃ y_ : List (List Int), y_ = (([y114, y119] : List (List Int))) := ⟨_, rfl⟩
        replace H : ((sum_Sum.f kj7 y124).bind fun t127 => ((sum_Sum.f kj7 (([l0] : List (List Int)))).bind fun t131 => (if t127 = t131 then ((sum_Sum.f kj7 (([l0, []] : List (List Int)))).bind fun t135 => ((sum_Sum.f kj7 (([l0] : List (List Int)))).bind fun t139 => (if t135 = t139 then ((sum_Sum.f kj7 (([[], y114, [], y119] : List (List Int)))).bind fun t153 => ((sum_Sum.f kj7 (([l0] : List (List Int)))).bind fun t157 => (some (t153 == t157)))) else (some false)))) else (some false)))) = some r := by first | (rw [hy124]; with_reducible exact H) | (have H2_ := (Option.bind_some _ _).symm.trans H; rw [hy124]; with_reducible exact H2_) | (have H2_ := (Option.bind_some _ _).symm.trans H; with_reducible exact H2_) | with_reducible exact H | (rw [hy124]; exact H) | exact H
        have Ny124 := Aside0.mk hy124
        clear hy124
        replace H := Option.bind_eq_some_iff.mp H
        obtain ⟨t127, A180, H⟩ := H
        replace H : ((sum_Sum.f kj7 (([l0] : List (List Int)))).bind fun t131 => (if t127 = t131 then ((sum_Sum.f kj7 (([l0, []] : List (List Int)))).bind fun t135 => ((sum_Sum.f kj7 (([l0] : List (List Int)))).bind fun t139 => (if t135 = t139 then ((sum_Sum.f kj7 (([[], y114, [], y119] : List (List Int)))).bind fun t153 => ((sum_Sum.f kj7 (([l0] : List (List Int)))).bind fun t157 => (some (t153 == t157)))) else (some false)))) else (some false))) = some r := H
        have A18 := Aside0.mk A180
        clear A180
        obtain ⟨y128, hy128⟩ : ∃ y_ : List (List Int), y_ = (([l0] : List (List Int))) := ⟨_, rfl⟩
        replace H : ((sum_Sum.f kj7 y128).bind fun t131 => (if t127 = t131 then ((sum_Sum.f kj7 (([l0, []] : List (List Int)))).bind fun t135 => ((sum_Sum.f kj7 (([l0] : List (List Int)))).bind fun t139 => (if t135 = t139 then ((sum_Sum.f kj7 (([[], y114, [], y119] : List (List Int)))).bind fun t153 => ((sum_Sum.f kj7 (([l0] : List (List Int)))).bind fun t157 => (some (t153 == t157)))) else (some false)))) else (some false))) = some r := by first | (rw [hy128]; with_reducible exact H) | (have H2_ := (Option.bind_some _ _).symm.trans H; rw [hy128]; with_reducible exact H2_) | (have H2_ := (Option.bind_some _ _).symm.trans H; with_reducible exact H2_) | with_reducible exact H | (rw [hy128]; exact H) | exact H
        have Ny128 := Aside0.mk hy128
        clear hy128
        replace H := Option.bind_eq_some_iff.mp H
        obtain ⟨t131, A190, H⟩ := H
        replace H : (if t127 = t131 then ((sum_Sum.f kj7 (([l0, []] : List (List Int)))).bind fun t135 => ((sum_Sum.f kj7 (([l0] : List (List Int)))).bind fun t139 => (if t135 = t139 then ((sum_Sum.f kj7 (([[], y114, [], y119] : List (List Int)))).bind fun t153 => ((sum_Sum.f kj7 (([l0] : List (List Int)))).bind fun t157 => (some (t153 == t157)))) else (some false)))) else (some false)) = some r := H
        have A19 := Aside0.mk A190
        clear A190
        by_cases c20 : t127 = t131
        ·
         rw [if_pos c20] at H
         have c20b0 : (t127 == t131) = true := beq_iff_eq.mpr c20
         have c20b1 : (t127 != t131) = false := bne_eq_false_iff_eq.mpr c20
         clear c20
         obtain ⟨y132, hy132⟩ : ∃ y_ : List (List Int), y_ = (([l0, []] : List (List Int))) := ⟨_, rfl⟩
         replace H : ((sum_Sum.f kj7 y132).bind fun t135 => ((sum_Sum.f kj7 (([l0] : List (List Int)))).bind fun t139 => (if t135 = t139 then ((sum_Sum.f kj7 (([[], y114, [], y119] : List (List Int)))).bind fun t153 => ((sum_Sum.f kj7 (([l0] : List (List Int)))).bind fun t157 => (some (t153 == t157)))) else (some false)))) = some r := by first | (rw [hy132]; with_reducible exact H) | (have H2_ := (Option.bind_some _ _).symm.trans H; rw [hy132]; with_reducible exact H2_) | (have H2_ := (Option.bind_some _ _).symm.trans H; with_reducible exact H2_) | with_reducible exact H | (rw [hy132]; exact H) | exact H
         have Ny132 := Aside0.mk hy132
         clear hy132
         replace H := Option.bind_eq_some_iff.mp H
         obtain ⟨t135, A210, H⟩ := H
         replace H : ((sum_Sum.f kj7 (([l0] : List (List Int)))).bind fun t139 => (if t135 = t139 then ((sum_Sum.f kj7 (([[], y114, [], y119] : List (List Int)))).bind fun t153 => ((sum_Sum.f kj7 (([l0] : List (List Int)))).bind fun t157 => (some (t153 == t157)))) else (some false))) = some r := H
         have A21 := Aside0.mk A210
         clear A210
         obtain ⟨y136, hy136⟩ : ∃ y_ : List (List Int), y_ = (([l0] : List (List Int))) := ⟨_, rfl⟩
         replace H : ((sum_Sum.f kj7 y136).bind fun t139 => (if t135 = t139 then ((sum_Sum.f kj7 (([[], y114, [], y119] : List (List Int)))).bind fun t153 => ((sum_Sum.f kj7 (([l0] : List (List Int)))).bind fun t157 => (some (t153 == t157)))) else (some false))) = some r := by first | (rw [hy136]; with_reducible exact H) | (have H2_ := (Option.bind_some _ _).symm.trans H; rw [hy136]; with_reducible exact H2_) | (have H2_ := (Option.bind_some _ _).symm.trans H; with_reducible exact H2_) | with_reducible exact H | (rw [hy136]; exact H) | exact H
         have Ny136 := Aside0.mk hy136
         clear hy136
         replace H := Option.bind_eq_some_iff.mp H
         obtain ⟨t139, A220, H⟩ := H
         replace H : (if t135 = t139 then ((sum_Sum.f kj7 (([[], y114, [], y119] : List (List Int)))).bind fun t153 => ((sum_Sum.f kj7 (([l0] : List (List Int)))).bind fun t157 => (some (t153 == t157)))) else (some false)) = some r := H
         have A22 := Aside0.mk A220
         clear A220
         by_cases c23 : t135 = t139
         ·
          rw [if_pos c23] at H
          have c23b0 : (t135 == t139) = true := beq_iff_eq.mpr c23
          have c23b1 : (t135 != t139) = false := bne_eq_false_iff_eq.mpr c23
          clear c23
          obtain ⟨y150, hy150⟩ : ∃ y_ : List (List Int), y_ = (([[], y114, [], y119] : List (List Int))) := ⟨_, rfl⟩
          replace H : ((sum_Sum.f kj7 y150).bind fun t153 => ((sum_Sum.f kj7 (([l0] : List (List Int)))).bind fun t157 => (some (t153 == t157)))) = some r := by first | (rw [hy150]; with_reducible exact H) | (have H2_ := (Option.bind_some _ _).symm.trans H; rw [hy150]; with_reducible exact H2_) | (have H2_ := (Option.bind_some _ _).symm.trans H; with_reducible exact H2_) | with_reducible exact H | (rw [hy150]; exact H) | exact H
          have Ny150 := Aside0.mk hy150
          clear hy150
          replace H := Option.bind_eq_some_iff.mp H
          obtain ⟨t153, A240, H⟩ := H
          replace H : ((sum_Sum.f kj7 (([l0] : List (List Int)))).bind fun t157 => (some (t153 == t157))) = some r := H
          have A24 := Aside0.mk A240
          clear A240
          obtain ⟨y154, hy154⟩ : ∃ y_ : List (List Int), y_ = (([l0] : List (List Int))) := ⟨_, rfl⟩
          replace H : ((sum_Sum.f kj7 y154).bind fun t157 => (some (t153 == t157))) = some r := by first | (rw [hy154]; with_reducible exact H) | (have H2_ := (Option.bind_some _ _).symm.trans H; rw [hy154]; with_reducible exact H2_) | (have H2_ := (Option.bind_some _ _).symm.trans H; with_reducible exact H2_) | with_reducible exact H | (rw [hy154]; exact H) | exact H
          have Ny154 := Aside0.mk hy154
          clear hy154
          replace H := Option.bind_eq_some_iff.mp H
          obtain ⟨t157, A250, H⟩ := H
          replace H : (some (t153 == t157)) = some r := H
          have A25 := Aside0.mk A250
          clear A250
          obtain rfl := Option.some.inj H
          try go_wp2
          have n0_ := Ext.a (Kd.V_drew HO_0.out)
          have n1_ := Ext.a (below_drew1 HB.out)
          clear HO_0
          clear HB
          have HO_0 := n0_
          have HB := n1_
          clear n0_ n1_
          have q27 : ((ji13) : Int) ≤ ((l0.length : Int) : Int) := of_decide_eq_true (by first | (with_reducible assumption) | assumption)
          obtain ⟨i027, hi027, _, hsz27, _⟩ := info_parts info5
          have hroom27 : l0.length ≤ c0 := (Kd.V_reads' HO_0.out).2.1
          have hC27 : Kd.F (Kd.int .u8) _ _ A0 l0.length l0 := (Kd.V_at (base := w.heap.size) HO_0.out).2.2
          have hcut27 := cut_to (P := Try.prog) 24 5 .i64 Try.underlying24 hi027 A0 l0.length c0 (ji13) (of_decide_eq_true (by first | (with_reducible assumption) | assumption)) q27 hroom27
          have hr27 := Kd.F_take (m := ((ji13) : Int).toNat) hC27 (by omega)
          have hy27 : y114.length = ((ji13) : Int).toNat := (by rw [Ny114.out, List.length_take]; omega)
          rw [← Ny114.out] at hr27
          rw [← hy27] at hcut27
          have HO118 := Ext.a (show Kd.V (Kd.int .u8) 5 _ w.heap.size _ (.slice A0 y114.length c0) y114 from Kd.V_mk (by omega) hr27)
          have HC118 := Ext.a (show y114.length ≤ c0 from by omega)
          clear hr27 hC27 hroom27 hi027 hsz27
          have KY27 := Aside0.mk hy27
          clear hy27
          replace q27 := eq_true q27
          have q28 : ((ji13) : Int) ≤ ((l0.length : Int) : Int) := of_decide_eq_true (by first | (with_reducible assumption) | assumption)
          obtain ⟨i028, hi028, _, hsz28, _⟩ := info_parts info5
          have hroom28 : l0.length ≤ c0 := (Kd.V_reads' HO_0.out).2.1
          have hC28 : Kd.F (Kd.int .u8) _ _ A0 l0.length l0 := (Kd.V_at (base := w.heap.size) HO_0.out).2.2
          have q028 : (0 : Int) ≤ ((ji13) : Int) := of_decide_eq_true (by first | (with_reducible assumption) | assumption)
          have hcut28 := cut_from (P := Try.prog) 24 5 .i64 Try.underlying24 hi028 1 hsz28 A0 l0.length c0 (ji13) q028 q28
          have hr28 := Kd.F_cut (m := ((ji13) : Int).toNat) (c := c0) hC28 (by omega) hroom28
          obtain ⟨A28, hA28⟩ : ∃ A1, A1 = (if c0 = ((ji13) : Int).toNat then A0 else (A0 : Option Addr).map (·.add (((ji13) : Int).toNat * 1))) := ⟨_, rfl⟩
          obtain ⟨c28, hc28⟩ : ∃ c1, c1 = c0 - ((ji13) : Int).toNat := ⟨_, rfl⟩
          have hy28 : y119.length = l0.length - ((ji13) : Int).toNat := (by rw [Ny119.out, List.length_drop] <;> omega)
          rw [show (l0).drop ((ji13) : Int).toNat = y119 from Ny119.out.symm] at hr28
          replace hr28 : Kd.F (Kd.int .u8) _ _ A28 y119.length y119 := (by rw [hA28]; exact hr28)
          rw [← hy28, ← hA28, ← hc28] at hcut28
          have HO123 := Ext.a (show Kd.V (Kd.int .u8) 5 _ w.heap.size _ (.slice A28 y119.length c28) y119 from Kd.V_mk (by rw [hy28, hc28]; exact Nat.sub_le_sub_right hroom28 _) hr28)
          have HC123 := Ext.a (show y119.length ≤ c28 from by rw [hy28, hc28]; exact Nat.sub_le_sub_right hroom28 _)
          clear hr28 hC28 hroom28 hi028 hsz28 hc28
          have KY28 := Aside0.mk hy28
          have KA28 := Aside0.mk hA28
          clear hy28 hA28
          replace q28 := eq_true q28
          refine start_ (n := 36) (S := fun w' => True) (ds := []) zb4_13 (by kernel_rfl) rfl rfl trivial (fun hHeld => ?_); refine with_tabW terrierlaw02_SumJoins.tab4 terrierlaw02_SumJoins.bits4 (fun HT_ HW_ => ?_)
          generalize wc.drew = w26 at HO_0 HB HO118 HO123 hHeld ⊢
          refine pure_ (i := 0) (N := some 21) (v := ?_) (a' := ?_) zb4_14 rfl rfl (any_of HT_.out (by kernel_rfl)) (fun _ _ _ h => h) (Or.inl ⟨by rfl, ?_⟩) ?_ ?_
          rotate_left
          · intro w'; go_simp; with_reducible rfl
          rotate_left
          · simp only [Act.put, Ext.sb, Ext.sz, Ext.ss, i64_w, i32_w]; rfl
          refine pure_ (i := 1) (N := some 22) (v := ?_) (a' := ?_) zb4_15 rfl rfl (any_of HT_.out (by kernel_rfl)) (fun _ _ _ h => h) (Or.inl ⟨by rfl, ?_⟩) ?_ ?_
          rotate_left
          · intro w'; go_simp; with_reducible rfl
          rotate_left
          · simp only [Act.put, Ext.sb, Ext.sz, Ext.ss, i64_w, i32_w]; rfl
          refine pure_ (i := 2) (N := some 23) (v := ?_) (a' := ?_) zb4_16 rfl rfl (any_of HT_.out (by kernel_rfl)) (fun _ _ _ h => h) (Or.inl ⟨by rfl, ?_⟩) ?_ ?_
          rotate_left
          · intro w'; go_simp; with_reducible rfl
          rotate_left
          · simp only [Act.put, Ext.sb, Ext.sz, Ext.ss, i64_w, i32_w]; rfl
          refine pure_ (i := 3) (N := some 24) (v := ?_) (a' := ?_) zb4_17 rfl rfl (any_of HT_.out (by kernel_rfl)) (fun _ _ _ h => h) (Or.inl ⟨by rfl, ?_⟩) ?_ ?_
          rotate_left
          · intro w'; go_simp; with_reducible rfl
          rotate_left
          · simp only [Act.put, Ext.sb, Ext.sz, Ext.ss, i64_w, i32_w]; rfl
          refine pure_ (i := 4) (N := some 25) (v := ?_) (a' := ?_) zb4_18 rfl rfl (any_of HT_.out (by kernel_rfl)) (fun _ _ _ h => h) (Or.inl ⟨by rfl, ?_⟩) ?_ ?_
          rotate_left
          · intro w'; go_simp; with_reducible rfl
          rotate_left
          · simp only [Act.put, Ext.sb, Ext.sz, Ext.ss, i64_w, i32_w]; rfl
          refine pure_ (i := 5) (N := some 26) (v := ?_) (a' := ?_) zb4_19 rfl rfl (any_of HT_.out (by kernel_rfl)) (fun _ _ _ h => h) (Or.inl ⟨by rfl, ?_⟩) ?_ ?_
          rotate_left
          · intro w'; go_simp; with_reducible rfl
          rotate_left
          · simp only [Act.put, Ext.sb, Ext.sz, Ext.ss, i64_w, i32_w]; rfl
          refine pure_ (i := 8) (N := some 29) (v := ?_) (a' := ?_) zb4_20 rfl rfl (any_of HT_.out (by kernel_rfl)) (fun _ _ _ h => h) (Or.inl ⟨by rfl, ?_⟩) ?_ ?_
          rotate_left
          · intro w'; go_simp; with_reducible rfl
          rotate_left
          · simp only [Act.put, Ext.sb, Ext.sz, Ext.ss, i64_w, i32_w]; rfl
          refine join_ (σ := Value × Value × Value × Value × Value × Value) 4 zb4_8 (fun s_ => [(27, s_.1), (28, .int .u32 t127), (30, s_.2.1), (31, .int .u32 t131), (35, s_.2.2.1), (36, .int .u32 t135), (38, s_.2.2.2.1), (39, .int .u32 t139), (49, s_.2.2.2.2.1), (50, .int .u32 t153), (52, s_.2.2.2.2.2), (32, .bool true), (33, .bool true), (34, .slice A0 l0.length c0), (37, .slice A0 l0.length c0), (40, .bool true), (41, .bool true), (42, .bool true), (43, .slice A0 l0.length c0), (44, .int .i64 ji13), (45, .slice A0 y114.length c0), (46, .slice A0 l0.length c0), (47, .int .i64 ji13), (48, .slice A28 y119.length c28), (51, .slice A0 l0.length c0)]) (fun s_ w' => (Kd.V (Kd.int .u8) 5 w' w.heap.size (ok4_1 P0_ w s_.1 s_.2.1 s_.2.2.1 s_.2.2.2.1 s_.2.2.2.2.1 s_.2.2.2.2.2) (.slice A0 y114.length c0) y114) ∧ (Kd.V (Kd.int .u8) 5 w' w.heap.size (ok4_1 P0_ w s_.1 s_.2.1 s_.2.2.1 s_.2.2.2.1 s_.2.2.2.2.1 s_.2.2.2.2.2) (.slice A28 y119.length c28) y119) ∧ (Kd.N (Kd.slice 5 (Kd.int .u8)) 24 w' w.heap.size (ok4_2 P0_ w s_.2.1 s_.2.2.1 s_.2.2.2.1 s_.2.2.2.2.1 s_.2.2.2.2.2) s_.1 y124) ∧ (Kd.N (Kd.slice 5 (Kd.int .u8)) 24 w' w.heap.size (ok4_2 P0_ w s_.1 s_.2.2.1 s_.2.2.2.1 s_.2.2.2.2.1 s_.2.2.2.2.2) s_.2.1 y128) ∧ (Kd.N (Kd.slice 5 (Kd.int .u8)) 24 w' w.heap.size (ok4_2 P0_ w s_.1 s_.2.1 s_.2.2.2.1 s_.2.2.2.2.1 s_.2.2.2.2.2) s_.2.2.1 y132) ∧ (Kd.N (Kd.slice 5 (Kd.int .u8)) 24 w' w.heap.size (ok4_2 P0_ w s_.1 s_.2.1 s_.2.2.1 s_.2.2.2.2.1 s_.2.2.2.2.2) s_.2.2.2.1 y136) ∧ (Kd.N (Kd.slice 5 (Kd.int .u8)) 24 w' w.heap.size (ok4_2 P0_ w s_.1 s_.2.1 s_.2.2.1 s_.2.2.2.1 s_.2.2.2.2.2) s_.2.2.2.2.1 y150) ∧ (Kd.N (Kd.slice 5 (Kd.int .u8)) 24 w' w.heap.size (ok4_2 P0_ w s_.1 s_.2.1 s_.2.2.1 s_.2.2.2.1 s_.2.2.2.2.1) s_.2.2.2.2.2 y154) ∧ (Kd.V (Kd.int .u8) 5 w' w.heap.size (ok4_1 P0_ w s_.1 s_.2.1 s_.2.2.1 s_.2.2.2.1 s_.2.2.2.2.1 s_.2.2.2.2.2) (.slice A0 l0.length c0) l0) ∧ (Below w.heap.size w w')) ?_ ?_
          rotate_left
          ·
           intro hJ6_7_9_10_14_15_17_18_28_29_31
           refine join_ (σ := Value × Value × Value × Value × Value) 5 zb4_12 (fun s_ => [(27, s_.1), (28, .int .u32 t127), (30, s_.2.1), (31, .int .u32 t131), (35, s_.2.2.1), (36, .int .u32 t135), (38, s_.2.2.2.1), (39, .int .u32 t139), (49, s_.2.2.2.2), (50, .int .u32 t153), (32, .bool true), (33, .bool true), (34, .slice A0 l0.length c0), (37, .slice A0 l0.length c0), (40, .bool true), (41, .bool true), (42, .bool true), (43, .slice A0 l0.length c0), (44, .int .i64 ji13), (45, .slice A0 y114.length c0), (46, .slice A0 l0.length c0), (47, .int .i64 ji13), (48, .slice A28 y119.length c28), (51, .slice A0 l0.length c0)]) (fun s_ w' => (Kd.V (Kd.int .u8) 5 w' w.heap.size (ok4_2 P0_ w s_.1 s_.2.1 s_.2.2.1 s_.2.2.2.1 s_.2.2.2.2) (.slice A0 y114.length c0) y114) ∧ (Kd.V (Kd.int .u8) 5 w' w.heap.size (ok4_2 P0_ w s_.1 s_.2.1 s_.2.2.1 s_.2.2.2.1 s_.2.2.2.2) (.slice A28 y119.length c28) y119) ∧ (Kd.N (Kd.slice 5 (Kd.int .u8)) 24 w' w.heap.size (ok4_3 P0_ w s_.2.1 s_.2.2.1 s_.2.2.2.1 s_.2.2.2.2) s_.1 y124) ∧ (Kd.N (Kd.slice 5 (Kd.int .u8)) 24 w' w.heap.size (ok4_3 P0_ w s_.1 s_.2.2.1 s_.2.2.2.1 s_.2.2.2.2) s_.2.1 y128) ∧ (Kd.N (Kd.slice 5 (Kd.int .u8)) 24 w' w.heap.size (ok4_3 P0_ w s_.1 s_.2.1 s_.2.2.2.1 s_.2.2.2.2) s_.2.2.1 y132) ∧ (Kd.N (Kd.slice 5 (Kd.int .u8)) 24 w' w.heap.size (ok4_3 P0_ w s_.1 s_.2.1 s_.2.2.1 s_.2.2.2.2) s_.2.2.2.1 y136) ∧ (Kd.N (Kd.slice 5 (Kd.int .u8)) 24 w' w.heap.size (ok4_3 P0_ w s_.1 s_.2.1 s_.2.2.1 s_.2.2.2.1) s_.2.2.2.2 y150) ∧ (Kd.V (Kd.int .u8) 5 w' w.heap.size (ok4_2 P0_ w s_.1 s_.2.1 s_.2.2.1 s_.2.2.2.1 s_.2.2.2.2) (.slice A0 l0.length c0) l0) ∧ (Below w.heap.size w w')) ?_ ?_
           rotate_left
           ·
            intro hJ6_7_9_10_14_15_17_18_28_29
            refine join_ (σ := Value × Value × Value × Value × Value × Value) 5 zb4_35 (fun s_ => [(27, s_.1), (28, .int .u32 t127), (30, s_.2.1), (31, .int .u32 t131), (35, s_.2.2.1), (36, .int .u32 t135), (38, s_.2.2.2.1), (39, .int .u32 t139), (49, s_.2.2.2.2.1), (52, s_.2.2.2.2.2), (32, .bool true), (33, .bool true), (34, .slice A0 l0.length c0), (37, .slice A0 l0.length c0), (40, .bool true), (41, .bool true), (42, .bool true), (43, .slice A0 l0.length c0), (44, .int .i64 ji13), (45, .slice A0 y114.length c0), (46, .slice A0 l0.length c0), (47, .int .i64 ji13), (48, .slice A28 y119.length c28), (51, .slice A0 l0.length c0)]) (fun s_ w' => (Kd.V (Kd.int .u8) 5 w' w.heap.size (ok4_1 P0_ w s_.1 s_.2.1 s_.2.2.1 s_.2.2.2.1 s_.2.2.2.2.1 s_.2.2.2.2.2) (.slice A0 y114.length c0) y114) ∧ (Kd.V (Kd.int .u8) 5 w' w.heap.size (ok4_1 P0_ w s_.1 s_.2.1 s_.2.2.1 s_.2.2.2.1 s_.2.2.2.2.1 s_.2.2.2.2.2) (.slice A28 y119.length c28) y119) ∧ (Kd.N (Kd.slice 5 (Kd.int .u8)) 24 w' w.heap.size (ok4_2 P0_ w s_.2.1 s_.2.2.1 s_.2.2.2.1 s_.2.2.2.2.1 s_.2.2.2.2.2) s_.1 y124) ∧ (Kd.N (Kd.slice 5 (Kd.int .u8)) 24 w' w.heap.size (ok4_2 P0_ w s_.1 s_.2.2.1 s_.2.2.2.1 s_.2.2.2.2.1 s_.2.2.2.2.2) s_.2.1 y128) ∧ (Kd.N (Kd.slice 5 (Kd.int .u8)) 24 w' w.heap.size (ok4_2 P0_ w s_.1 s_.2.1 s_.2.2.2.1 s_.2.2.2.2.1 s_.2.2.2.2.2) s_.2.2.1 y132) ∧ (Kd.N (Kd.slice 5 (Kd.int .u8)) 24 w' w.heap.size (ok4_2 P0_ w s_.1 s_.2.1 s_.2.2.1 s_.2.2.2.2.1 s_.2.2.2.2.2) s_.2.2.2.1 y136) ∧ (Kd.N (Kd.slice 5 (Kd.int .u8)) 24 w' w.heap.size (ok4_2 P0_ w s_.1 s_.2.1 s_.2.2.1 s_.2.2.2.1 s_.2.2.2.2.2) s_.2.2.2.2.1 y150) ∧ (Kd.N (Kd.slice 5 (Kd.int .u8)) 24 w' w.heap.size (ok4_2 P0_ w s_.1 s_.2.1 s_.2.2.1 s_.2.2.2.1 s_.2.2.2.2.1) s_.2.2.2.2.2 y154) ∧ (Kd.V (Kd.int .u8) 5 w' w.heap.size (ok4_1 P0_ w s_.1 s_.2.1 s_.2.2.1 s_.2.2.2.1 s_.2.2.2.2.1 s_.2.2.2.2.2) (.slice A0 l0.length c0) l0) ∧ (Below w.heap.size w w')) ?_ ?_
            rotate_left
            ·
             intro hJ6_7_9_10_14_15_17_18_28_31
             refine join_ (σ := Value × Value × Value × Value × Value) 6 zb4_42 (fun s_ => [(27, s_.1), (28, .int .u32 t127), (30, s_.2.1), (31, .int .u32 t131), (35, s_.2.2.1), (36, .int .u32 t135), (38, s_.2.2.2.1), (39, .int .u32 t139), (49, s_.2.2.2.2), (32, .bool true), (33, .bool true), (34, .slice A0 l0.length c0), (37, .slice A0 l0.length c0), (40, .bool true), (41, .bool true), (42, .bool true), (43, .slice A0 l0.length c0), (44, .int .i64 ji13), (45, .slice A0 y114.length c0), (46, .slice A0 l0.length c0), (47, .int .i64 ji13), (48, .slice A28 y119.length c28), (51, .slice A0 l0.length c0)]) (fun s_ w' => (Kd.V (Kd.int .u8) 5 w' w.heap.size (ok4_2 P0_ w s_.1 s_.2.1 s_.2.2.1 s_.2.2.2.1 s_.2.2.2.2) (.slice A0 y114.length c0) y114) ∧ (Kd.V (Kd.int .u8) 5 w' w.heap.size (ok4_2 P0_ w s_.1 s_.2.1 s_.2.2.1 s_.2.2.2.1 s_.2.2.2.2) (.slice A28 y119.length c28) y119) ∧ (Kd.N (Kd.slice 5 (Kd.int .u8)) 24 w' w.heap.size (ok4_3 P0_ w s_.2.1 s_.2.2.1 s_.2.2.2.1 s_.2.2.2.2) s_.1 y124) ∧ (Kd.N (Kd.slice 5 (Kd.int .u8)) 24 w' w.heap.size (ok4_3 P0_ w s_.1 s_.2.2.1 s_.2.2.2.1 s_.2.2.2.2) s_.2.1 y128) ∧ (Kd.N (Kd.slice 5 (Kd.int .u8)) 24 w' w.heap.size (ok4_3 P0_ w s_.1 s_.2.1 s_.2.2.2.1 s_.2.2.2.2) s_.2.2.1 y132) ∧ (Kd.N (Kd.slice 5 (Kd.int .u8)) 24 w' w.heap.size (ok4_3 P0_ w s_.1 s_.2.1 s_.2.2.1 s_.2.2.2.2) s_.2.2.2.1 y136) ∧ (Kd.N (Kd.slice 5 (Kd.int .u8)) 24 w' w.heap.size (ok4_3 P0_ w s_.1 s_.2.1 s_.2.2.1 s_.2.2.2.1) s_.2.2.2.2 y150) ∧ (Kd.V (Kd.int .u8) 5 w' w.heap.size (ok4_2 P0_ w s_.1 s_.2.1 s_.2.2.1 s_.2.2.2.1 s_.2.2.2.2) (.slice A0 l0.length c0) l0) ∧ (Below w.heap.size w w')) ?_ ?_
             rotate_left
             ·
              intro hJ6_7_9_10_14_15_17_18_28
              refine join_ (σ := Value × Value × Value × Value × Value) 6 zb4_43 (fun s_ => [(27, s_.1), (28, .int .u32 t127), (30, s_.2.1), (31, .int .u32 t131), (35, s_.2.2.1), (36, .int .u32 t135), (38, s_.2.2.2.1), (39, .int .u32 t139), (52, s_.2.2.2.2), (32, .bool true), (33, .bool true), (34, .slice A0 l0.length c0), (37, .slice A0 l0.length c0), (40, .bool true), (41, .bool true), (42, .bool true), (43, .slice A0 l0.length c0), (44, .int .i64 ji13), (45, .slice A0 y114.length c0), (46, .slice A0 l0.length c0), (47, .int .i64 ji13), (48, .slice A28 y119.length c28), (51, .slice A0 l0.length c0)]) (fun s_ w' => (Kd.V (Kd.int .u8) 5 w' w.heap.size (ok4_2 P0_ w s_.1 s_.2.1 s_.2.2.1 s_.2.2.2.1 s_.2.2.2.2) (.slice A0 y114.length c0) y114) ∧ (Kd.V (Kd.int .u8) 5 w' w.heap.size (ok4_2 P0_ w s_.1 s_.2.1 s_.2.2.1 s_.2.2.2.1 s_.2.2.2.2) (.slice A28 y119.length c28) y119) ∧ (Kd.N (Kd.slice 5 (Kd.int .u8)) 24 w' w.heap.size (ok4_3 P0_ w s_.2.1 s_.2.2.1 s_.2.2.2.1 s_.2.2.2.2) s_.1 y124) ∧ (Kd.N (Kd.slice 5 (Kd.int .u8)) 24 w' w.heap.size (ok4_3 P0_ w s_.1 s_.2.2.1 s_.2.2.2.1 s_.2.2.2.2) s_.2.1 y128) ∧ (Kd.N (Kd.slice 5 (Kd.int .u8)) 24 w' w.heap.size (ok4_3 P0_ w s_.1 s_.2.1 s_.2.2.2.1 s_.2.2.2.2) s_.2.2.1 y132) ∧ (Kd.N (Kd.slice 5 (Kd.int .u8)) 24 w' w.heap.size (ok4_3 P0_ w s_.1 s_.2.1 s_.2.2.1 s_.2.2.2.2) s_.2.2.2.1 y136) ∧ (Kd.N (Kd.slice 5 (Kd.int .u8)) 24 w' w.heap.size (ok4_3 P0_ w s_.1 s_.2.1 s_.2.2.1 s_.2.2.2.1) s_.2.2.2.2 y154) ∧ (Kd.V (Kd.int .u8) 5 w' w.heap.size (ok4_2 P0_ w s_.1 s_.2.1 s_.2.2.1 s_.2.2.2.1 s_.2.2.2.2) (.slice A0 l0.length c0) l0) ∧ (Below w.heap.size w w')) ?_ ?_
              rotate_left
              ·
               intro hJ6_7_9_10_14_15_17_18_31
               refine join_ (σ := Value × Value × Value × Value) 7 zb4_40 (fun s_ => [(27, s_.1), (28, .int .u32 t127), (30, s_.2.1), (31, .int .u32 t131), (35, s_.2.2.1), (36, .int .u32 t135), (38, s_.2.2.2), (39, .int .u32 t139), (32, .bool true), (33, .bool true), (34, .slice A0 l0.length c0), (37, .slice A0 l0.length c0), (40, .bool true), (41, .bool true), (42, .bool true), (43, .slice A0 l0.length c0), (44, .int .i64 ji13), (45, .slice A0 y114.length c0), (46, .slice A0 l0.length c0), (47, .int .i64 ji13), (48, .slice A28 y119.length c28), (51, .slice A0 l0.length c0)]) (fun s_ w' => (Kd.V (Kd.int .u8) 5 w' w.heap.size (ok4_3 P0_ w s_.1 s_.2.1 s_.2.2.1 s_.2.2.2) (.slice A0 y114.length c0) y114) ∧ (Kd.V (Kd.int .u8) 5 w' w.heap.size (ok4_3 P0_ w s_.1 s_.2.1 s_.2.2.1 s_.2.2.2) (.slice A28 y119.length c28) y119) ∧ (Kd.N (Kd.slice 5 (Kd.int .u8)) 24 w' w.heap.size (ok4_4 P0_ w s_.2.1 s_.2.2.1 s_.2.2.2) s_.1 y124) ∧ (Kd.N (Kd.slice 5 (Kd.int .u8)) 24 w' w.heap.size (ok4_4 P0_ w s_.1 s_.2.2.1 s_.2.2.2) s_.2.1 y128) ∧ (Kd.N (Kd.slice 5 (Kd.int .u8)) 24 w' w.heap.size (ok4_4 P0_ w s_.1 s_.2.1 s_.2.2.2) s_.2.2.1 y132) ∧ (Kd.N (Kd.slice 5 (Kd.int .u8)) 24 w' w.heap.size (ok4_4 P0_ w s_.1 s_.2.1 s_.2.2.1) s_.2.2.2 y136) ∧ (Kd.V (Kd.int .u8) 5 w' w.heap.size (ok4_3 P0_ w s_.1 s_.2.1 s_.2.2.1 s_.2.2.2) (.slice A0 l0.length c0) l0) ∧ (Below w.heap.size w w')) ?_ ?_
               rotate_left
               ·
                intro hJ6_7_9_10_14_15_17_18
                refine join_ (σ := Value × Value × Value × Value) 18 zb4_2 (fun s_ => [(27, s_.1), (28, .int .u32 t127), (30, s_.2.1), (31, .int .u32 t131), (35, s_.2.2.1), (36, .int .u32 t135), (38, s_.2.2.2), (32, .bool true), (33, .bool true), (34, .slice A0 l0.length c0), (37, .slice A0 l0.length c0)]) (fun s_ w' => (Kd.V (Kd.int .u8) 5 w' w.heap.size (ok4_3 P0_ w s_.1 s_.2.1 s_.2.2.1 s_.2.2.2) (.slice A0 y114.length c0) y114) ∧ (Kd.V (Kd.int .u8) 5 w' w.heap.size (ok4_3 P0_ w s_.1 s_.2.1 s_.2.2.1 s_.2.2.2) (.slice A28 y119.length c28) y119) ∧ (Kd.N (Kd.slice 5 (Kd.int .u8)) 24 w' w.heap.size (ok4_4 P0_ w s_.2.1 s_.2.2.1 s_.2.2.2) s_.1 y124) ∧ (Kd.N (Kd.slice 5 (Kd.int .u8)) 24 w' w.heap.size (ok4_4 P0_ w s_.1 s_.2.2.1 s_.2.2.2) s_.2.1 y128) ∧ (Kd.N (Kd.slice 5 (Kd.int .u8)) 24 w' w.heap.size (ok4_4 P0_ w s_.1 s_.2.1 s_.2.2.2) s_.2.2.1 y132) ∧ (Kd.N (Kd.slice 5 (Kd.int .u8)) 24 w' w.heap.size (ok4_4 P0_ w s_.1 s_.2.1 s_.2.2.1) s_.2.2.2 y136) ∧ (Kd.V (Kd.int .u8) 5 w' w.heap.size (ok4_3 P0_ w s_.1 s_.2.1 s_.2.2.1 s_.2.2.2) (.slice A0 l0.length c0) l0) ∧ (Below w.heap.size w w')) ?_ ?_
                rotate_left
                ·
                 intro hJ6_7_9_10_14_15_17
                 refine join_ (σ := Value × Value × Value) 19 zb4_7 (fun s_ => [(27, s_.1), (28, .int .u32 t127), (30, s_.2.1), (31, .int .u32 t131), (35, s_.2.2), (36, .int .u32 t135), (32, .bool true), (33, .bool true), (34, .slice A0 l0.length c0), (37, .slice A0 l0.length c0)]) (fun s_ w' => (Kd.V (Kd.int .u8) 5 w' w.heap.size (ok4_4 P0_ w s_.1 s_.2.1 s_.2.2) (.slice A0 y114.length c0) y114) ∧ (Kd.V (Kd.int .u8) 5 w' w.heap.size (ok4_4 P0_ w s_.1 s_.2.1 s_.2.2) (.slice A28 y119.length c28) y119) ∧ (Kd.N (Kd.slice 5 (Kd.int .u8)) 24 w' w.heap.size (ok4_5 P0_ w s_.2.1 s_.2.2) s_.1 y124) ∧ (Kd.N (Kd.slice 5 (Kd.int .u8)) 24 w' w.heap.size (ok4_5 P0_ w s_.1 s_.2.2) s_.2.1 y128) ∧ (Kd.N (Kd.slice 5 (Kd.int .u8)) 24 w' w.heap.size (ok4_5 P0_ w s_.1 s_.2.1) s_.2.2 y132) ∧ (Kd.V (Kd.int .u8) 5 w' w.heap.size (ok4_4 P0_ w s_.1 s_.2.1 s_.2.2) (.slice A0 l0.length c0) l0) ∧ (Below w.heap.size w w')) ?_ ?_
                 rotate_left
                 ·
                  intro hJ6_7_9_10_14_15
                  refine join_ (σ := Value × Value × Value × Value) 19 zb4_3 (fun s_ => [(27, s_.1), (28, .int .u32 t127), (30, s_.2.1), (31, .int .u32 t131), (35, s_.2.2.1), (38, s_.2.2.2), (32, .bool true), (33, .bool true), (34, .slice A0 l0.length c0), (37, .slice A0 l0.length c0)]) (fun s_ w' => (Kd.V (Kd.int .u8) 5 w' w.heap.size (ok4_3 P0_ w s_.1 s_.2.1 s_.2.2.1 s_.2.2.2) (.slice A0 y114.length c0) y114) ∧ (Kd.V (Kd.int .u8) 5 w' w.heap.size (ok4_3 P0_ w s_.1 s_.2.1 s_.2.2.1 s_.2.2.2) (.slice A28 y119.length c28) y119) ∧ (Kd.N (Kd.slice 5 (Kd.int .u8)) 24 w' w.heap.size (ok4_4 P0_ w s_.2.1 s_.2.2.1 s_.2.2.2) s_.1 y124) ∧ (Kd.N (Kd.slice 5 (Kd.int .u8)) 24 w' w.heap.size (ok4_4 P0_ w s_.1 s_.2.2.1 s_.2.2.2) s_.2.1 y128) ∧ (Kd.N (Kd.slice 5 (Kd.int .u8)) 24 w' w.heap.size (ok4_4 P0_ w s_.1 s_.2.1 s_.2.2.2) s_.2.2.1 y132) ∧ (Kd.N (Kd.slice 5 (Kd.int .u8)) 24 w' w.heap.size (ok4_4 P0_ w s_.1 s_.2.1 s_.2.2.1) s_.2.2.2 y136) ∧ (Kd.V (Kd.int .u8) 5 w' w.heap.size (ok4_3 P0_ w s_.1 s_.2.1 s_.2.2.1 s_.2.2.2) (.slice A0 l0.length c0) l0) ∧ (Below w.heap.size w w')) ?_ ?_
                  rotate_left
                  ·
                   intro hJ6_7_9_10_14_17
                   refine join_ (σ := Value × Value × Value) 20 zb4_10 (fun s_ => [(27, s_.1), (28, .int .u32 t127), (30, s_.2.1), (31, .int .u32 t131), (35, s_.2.2), (32, .bool true), (33, .bool true), (34, .slice A0 l0.length c0), (37, .slice A0 l0.length c0)]) (fun s_ w' => (Kd.V (Kd.int .u8) 5 w' w.heap.size (ok4_4 P0_ w s_.1 s_.2.1 s_.2.2) (.slice A0 y114.length c0) y114) ∧ (Kd.V (Kd.int .u8) 5 w' w.heap.size (ok4_4 P0_ w s_.1 s_.2.1 s_.2.2) (.slice A28 y119.length c28) y119) ∧ (Kd.N (Kd.slice 5 (Kd.int .u8)) 24 w' w.heap.size (ok4_5 P0_ w s_.2.1 s_.2.2) s_.1 y124) ∧ (Kd.N (Kd.slice 5 (Kd.int .u8)) 24 w' w.heap.size (ok4_5 P0_ w s_.1 s_.2.2) s_.2.1 y128) ∧ (Kd.N (Kd.slice 5 (Kd.int .u8)) 24 w' w.heap.size (ok4_5 P0_ w s_.1 s_.2.1) s_.2.2 y132) ∧ (Kd.V (Kd.int .u8) 5 w' w.heap.size (ok4_4 P0_ w s_.1 s_.2.1 s_.2.2) (.slice A0 l0.length c0) l0) ∧ (Below w.heap.size w w')) ?_ ?_
                   rotate_left
                   ·
                    intro hJ6_7_9_10_14
                    refine join_ (σ := Value × Value × Value) 20 zb4_11 (fun s_ => [(27, s_.1), (28, .int .u32 t127), (30, s_.2.1), (31, .int .u32 t131), (38, s_.2.2), (32, .bool true), (33, .bool true), (34, .slice A0 l0.length c0), (37, .slice A0 l0.length c0)]) (fun s_ w' => (Kd.V (Kd.int .u8) 5 w' w.heap.size (ok4_4 P0_ w s_.1 s_.2.1 s_.2.2) (.slice A0 y114.length c0) y114) ∧ (Kd.V (Kd.int .u8) 5 w' w.heap.size (ok4_4 P0_ w s_.1 s_.2.1 s_.2.2) (.slice A28 y119.length c28) y119) ∧ (Kd.N (Kd.slice 5 (Kd.int .u8)) 24 w' w.heap.size (ok4_5 P0_ w s_.2.1 s_.2.2) s_.1 y124) ∧ (Kd.N (Kd.slice 5 (Kd.int .u8)) 24 w' w.heap.size (ok4_5 P0_ w s_.1 s_.2.2) s_.2.1 y128) ∧ (Kd.N (Kd.slice 5 (Kd.int .u8)) 24 w' w.heap.size (ok4_5 P0_ w s_.1 s_.2.1) s_.2.2 y136) ∧ (Kd.V (Kd.int .u8) 5 w' w.heap.size (ok4_4 P0_ w s_.1 s_.2.1 s_.2.2) (.slice A0 l0.length c0) l0) ∧ (Below w.heap.size w w')) ?_ ?_
                    rotate_left
                    ·
                     intro hJ6_7_9_10_17
                     refine join_ (σ := Value × Value) 21 zb4_9 (fun s_ => [(27, s_.1), (28, .int .u32 t127), (30, s_.2), (31, .int .u32 t131), (32, .bool true), (33, .bool true), (34, .slice A0 l0.length c0), (37, .slice A0 l0.length c0)]) (fun s_ w' => (Kd.V (Kd.int .u8) 5 w' w.heap.size (ok4_5 P0_ w s_.1 s_.2) (.slice A0 y114.length c0) y114) ∧ (Kd.V (Kd.int .u8) 5 w' w.heap.size (ok4_5 P0_ w s_.1 s_.2) (.slice A28 y119.length c28) y119) ∧ (Kd.N (Kd.slice 5 (Kd.int .u8)) 24 w' w.heap.size (ok4_6 P0_ w s_.2) s_.1 y124) ∧ (Kd.N (Kd.slice 5 (Kd.int .u8)) 24 w' w.heap.size (ok4_6 P0_ w s_.1) s_.2 y128) ∧ (Kd.V (Kd.int .u8) 5 w' w.heap.size (ok4_5 P0_ w s_.1 s_.2) (.slice A0 l0.length c0) l0) ∧ (Below w.heap.size w w')) ?_ ?_
                     rotate_left
                     ·
                      intro hJ6_7_9_10
                      refine join_ (σ := Value × Value) 26 zb4_0 (fun s_ => [(27, s_.1), (28, .int .u32 t127), (30, s_.2)]) (fun s_ w' => (Kd.V (Kd.int .u8) 5 w' w.heap.size (ok4_5 P0_ w s_.1 s_.2) (.slice A0 y114.length c0) y114) ∧ (Kd.V (Kd.int .u8) 5 w' w.heap.size (ok4_5 P0_ w s_.1 s_.2) (.slice A28 y119.length c28) y119) ∧ (Kd.N (Kd.slice 5 (Kd.int .u8)) 24 w' w.heap.size (ok4_6 P0_ w s_.2) s_.1 y124) ∧ (Kd.N (Kd.slice 5 (Kd.int .u8)) 24 w' w.heap.size (ok4_6 P0_ w s_.1) s_.2 y128) ∧ (Kd.V (Kd.int .u8) 5 w' w.heap.size (ok4_5 P0_ w s_.1 s_.2) (.slice A0 l0.length c0) l0) ∧ (Below w.heap.size w w')) ?_ ?_
                      rotate_left
                      ·
                       intro hJ6_7_9
                       refine join_ (σ := Value) 27 zb4_6 (fun s_ => [(27, s_), (28, .int .u32 t127)]) (fun s_ w' => (Kd.V (Kd.int .u8) 5 w' w.heap.size (ok4_6 P0_ w s_) (.slice A0 y114.length c0) y114) ∧ (Kd.V (Kd.int .u8) 5 w' w.heap.size (ok4_6 P0_ w s_) (.slice A28 y119.length c28) y119) ∧ (Kd.N (Kd.slice 5 (Kd.int .u8)) 24 w' w.heap.size (ok4_0 P0_ w) s_ y124) ∧ (Kd.V (Kd.int .u8) 5 w' w.heap.size (ok4_6 P0_ w s_) (.slice A0 l0.length c0) l0) ∧ (Below w.heap.size w w')) ?_ ?_
                       rotate_left
                       ·
                        intro hJ6_7
                        refine join_ (σ := Value × Value) 27 zb4_1 (fun s_ => [(27, s_.1), (30, s_.2)]) (fun s_ w' => (Kd.V (Kd.int .u8) 5 w' w.heap.size (ok4_5 P0_ w s_.1 s_.2) (.slice A0 y114.length c0) y114) ∧ (Kd.V (Kd.int .u8) 5 w' w.heap.size (ok4_5 P0_ w s_.1 s_.2) (.slice A28 y119.length c28) y119) ∧ (Kd.N (Kd.slice 5 (Kd.int .u8)) 24 w' w.heap.size (ok4_6 P0_ w s_.2) s_.1 y124) ∧ (Kd.N (Kd.slice 5 (Kd.int .u8)) 24 w' w.heap.size (ok4_6 P0_ w s_.1) s_.2 y128) ∧ (Kd.V (Kd.int .u8) 5 w' w.heap.size (ok4_5 P0_ w s_.1 s_.2) (.slice A0 l0.length c0) l0) ∧ (Below w.heap.size w w')) ?_ ?_
                        rotate_left
                        ·
                         intro hJ6_9
                         refine join_ (σ := Value) 28 zb4_4 (fun s_ => [(27, s_)]) (fun s_ w' => (Kd.V (Kd.int .u8) 5 w' w.heap.size (ok4_6 P0_ w s_) (.slice A0 y114.length c0) y114) ∧ (Kd.V (Kd.int .u8) 5 w' w.heap.size (ok4_6 P0_ w s_) (.slice A28 y119.length c28) y119) ∧ (Kd.N (Kd.slice 5 (Kd.int .u8)) 24 w' w.heap.size (ok4_0 P0_ w) s_ y124) ∧ (Kd.V (Kd.int .u8) 5 w' w.heap.size (ok4_6 P0_ w s_) (.slice A0 l0.length c0) l0) ∧ (Below w.heap.size w w')) ?_ ?_
                         rotate_left
                         ·
                          intro hJ6
                          refine join_ (σ := Value) 28 zb4_5 (fun s_ => [(30, s_)]) (fun s_ w' => (Kd.V (Kd.int .u8) 5 w' w.heap.size (ok4_6 P0_ w s_) (.slice A0 y114.length c0) y114) ∧ (Kd.V (Kd.int .u8) 5 w' w.heap.size (ok4_6 P0_ w s_) (.slice A28 y119.length c28) y119) ∧ (Kd.N (Kd.slice 5 (Kd.int .u8)) 24 w' w.heap.size (ok4_0 P0_ w) s_ y128) ∧ (Kd.V (Kd.int .u8) 5 w' w.heap.size (ok4_6 P0_ w s_) (.slice A0 l0.length c0) l0) ∧ (Below w.heap.size w w')) ?_ ?_
                          rotate_left
                          ·
                           intro hJ9
                           refine two_ (i := 6) (j := 9) (Ni := some 27) (Nj := some 30) zb4_4 zb4_5 rfl rfl rfl rfl (two_of HT_.out (by kernel_rfl)) (by decide) (by decide) (fun K hK => ?_) (fun K hK => ?_)
                           ·
                            skip
                            refine Kd.N_lit_step (Kd.slice 5 (Kd.int .u8)) _ 24 ?hg (N' := 27) ?hd (xs := ([y114, y119] : List (List Int))) (inner := [.slice A0 y114.length c0, .slice A28 y119.length c28]) (ok := (ok4_0 P0_ w)) (okp := (ok4_0 P0_ w)) ?hr ?hp (fun _ hk => hk) ((show ∀ k_, w26.heap.size ≤ k_ → (ok4_0 P0_ w) k_ from fun k_ hk => (.inr (Nat.le_trans (below_size (Ext.nB HB.out)) hk))) _ (Nat.le_refl _)) (Below.refl _ _) (Nat.le_refl _) (by simp) ?_; (case hd => rfl); (case hg => rfl); (case hr => first | (go_simp; done) | (go_simp; rfl)); (case hp => exact (Reps.one (show Kd.FK (Kd.slice 5 (Kd.int .u8)) _ _ y114 [.slice A0 y114.length c0] from (Kd.FK_slice_mk (Kd.V_reads' (Kd.V_mono (e := 0) (base := 0) (ok' := (ok4_0 P0_ w)) (HO118.out) (fun k_ hk => hk))).2.1 (Kd.V_F (e := 0) (base := 0) (Kd.V_mono (e := 0) (base := 0) (ok' := (ok4_0 P0_ w)) (HO118.out) (fun k_ hk => hk))))) (Reps.one (show Kd.FK (Kd.slice 5 (Kd.int .u8)) _ _ y119 [.slice A28 y119.length c28] from (Kd.FK_slice_mk (Kd.V_reads' (Kd.V_mono (e := 0) (base := 0) (ok' := (ok4_0 P0_ w)) (HO123.out) (fun k_ hk => hk))).2.1 (Kd.V_F (e := 0) (base := 0) (Kd.V_mono (e := 0) (base := 0) (ok' := (ok4_0 P0_ w)) (HO123.out) (fun k_ hk => hk))))) (Reps.none _ _))))
                            intro v125 w29 ho30 hb hg_ hnew_
                            clear hg_ hnew_
                            (first | rw [← Ny124.out] at ho30 | (simp only [Int.reduceToNat] at ho30; rw [← Ny124.out] at ho30))
                            have n0_ := Ext.a (Kd.V_elder' (Ext.nV HO_0.out) (Kd.N_base ho30) hb)
                            have n1_ := Ext.a (Kd.V_elder' (Ext.nV HO118.out) (Kd.N_base ho30) hb)
                            have n2_ := Ext.a (Kd.V_elder' (Ext.nV HO123.out) (Kd.N_base ho30) hb)
                            have n3_ := Ext.a (Kd.N_lower ho30 (below_size (Ext.nB HB.out)))
                            have n4_ := Ext.a (below_step (Ext.nB HB.out) hb)
                            clear HO_0
                            clear HO118
                            clear HO123
                            clear HB
                            have HO_0 := n0_
                            have HO118 := n1_
                            have HO123 := n2_
                            have HO126 := n3_
                            have HB := n4_
                            clear n0_ n1_ n2_ n3_ n4_
                            clear hb ho30
                            refine hK.out _ _ trivial (fun hHeld => ?_)
                            clear hK K
                            refine norm_ (a' := ?_) ?_ ?_
                            rotate_left
                            · show Act.put _ (some 27) _ = _; simp only [Act.put, Ext.sb, Ext.sz, Ext.ss, i64_w, i32_w]; rfl
                            exact norm_ (by first | (simp only [putAll, Act.put, Ext.sb, Ext.sz, Ext.ss]; done) | (simp only [putAll, Act.put, Ext.sb, Ext.sz, Ext.ss]; rfl)) (hJ6 (v125) _ ⟨(Ext.nV HO118.out), (Ext.nV HO123.out), (Ext.nN HO126.out), (Ext.nV HO_0.out), (Ext.nB HB.out)⟩)
                           ·
                            skip
                            refine Kd.N_lit_step (Kd.slice 5 (Kd.int .u8)) _ 24 ?hg (N' := 30) ?hd (xs := ([l0] : List (List Int))) (inner := [.slice A0 l0.length c0]) (ok := (ok4_0 P0_ w)) (okp := (ok4_0 P0_ w)) ?hr ?hp (fun _ hk => hk) ((show ∀ k_, w26.heap.size ≤ k_ → (ok4_0 P0_ w) k_ from fun k_ hk => (.inr (Nat.le_trans (below_size (Ext.nB HB.out)) hk))) _ (Nat.le_refl _)) (Below.refl _ _) (Nat.le_refl _) (by simp) ?_; (case hd => rfl); (case hg => rfl); (case hr => first | (go_simp; done) | (go_simp; rfl)); (case hp => exact (Reps.one (show Kd.FK (Kd.slice 5 (Kd.int .u8)) _ _ l0 [.slice A0 l0.length c0] from (Kd.FK_slice_mk (Kd.V_reads' (Kd.V_mono (e := 0) (base := 0) (ok' := (ok4_0 P0_ w)) (HO_0.out) (fun k_ hk => hk))).2.1 (Kd.V_F (e := 0) (base := 0) (Kd.V_mono (e := 0) (base := 0) (ok' := (ok4_0 P0_ w)) (HO_0.out) (fun k_ hk => hk))))) (Reps.none _ _)))
                            intro v129 w29 ho30 hb hg_ hnew_
                            clear hg_ hnew_
                            (first | rw [← Ny128.out] at ho30 | (simp only [Int.reduceToNat] at ho30; rw [← Ny128.out] at ho30))
                            have n0_ := Ext.a (Kd.V_elder' (Ext.nV HO_0.out) (Kd.N_base ho30) hb)
                            have n1_ := Ext.a (Kd.V_elder' (Ext.nV HO118.out) (Kd.N_base ho30) hb)
                            have n2_ := Ext.a (Kd.V_elder' (Ext.nV HO123.out) (Kd.N_base ho30) hb)
                            have n3_ := Ext.a (Kd.N_lower ho30 (below_size (Ext.nB HB.out)))
                            have n4_ := Ext.a (below_step (Ext.nB HB.out) hb)
                            clear HO_0
                            clear HO118
                            clear HO123
                            clear HB
                            have HO_0 := n0_
                            have HO118 := n1_
                            have HO123 := n2_
                            have HO130 := n3_
                            have HB := n4_
                            clear n0_ n1_ n2_ n3_ n4_
                            clear hb ho30
                            refine hK.out _ _ trivial (fun hHeld => ?_)
                            clear hK K
                            refine norm_ (a' := ?_) ?_ ?_
                            rotate_left
                            · show Act.put _ (some 30) _ = _; simp only [Act.put, Ext.sb, Ext.sz, Ext.ss, i64_w, i32_w]; rfl
                            exact norm_ (by first | (simp only [putAll, Act.put, Ext.sb, Ext.sz, Ext.ss]; done) | (simp only [putAll, Act.put, Ext.sb, Ext.sz, Ext.ss]; rfl)) (hJ9 (v129) _ ⟨(Ext.nV HO118.out), (Ext.nV HO123.out), (Ext.nN HO130.out), (Ext.nV HO_0.out), (Ext.nB HB.out)⟩)
                          ·
                           skip
                           rintro v129 w31 ⟨h0_, h1_, h2_, h3_, h4_⟩
                           have n0_ : Aside0 (Kd.V (Kd.int .u8) 5 w31 w.heap.size (ok4_6 P0_ w v129) (.slice A0 y114.length c0) y114) := ⟨h0_⟩
                           have n1_ : Aside0 (Kd.V (Kd.int .u8) 5 w31 w.heap.size (ok4_6 P0_ w v129) (.slice A28 y119.length c28) y119) := ⟨h1_⟩
                           have n2_ : Aside0 (Kd.N (Kd.slice 5 (Kd.int .u8)) 24 w31 w.heap.size (ok4_0 P0_ w) v129 y128) := ⟨h2_⟩
                           have n3_ : Aside0 (Kd.V (Kd.int .u8) 5 w31 w.heap.size (ok4_6 P0_ w v129) (.slice A0 l0.length c0) l0) := ⟨h3_⟩
                           have n4_ : Aside0 (Below w.heap.size w w31) := ⟨h4_⟩
                           clear HO_0
                           clear HB
                           clear h0_ h1_ h2_ h3_ h4_
                           have HO118 := n0_
                           have HO123 := n1_
                           have HO130 := n2_
                           have HO_0 := n3_
                           have HB := n4_
                           clear n0_ n1_ n2_ n3_ n4_
                           have hHeld := trivial
                           refine norm_ (a' := ?_) ?_ ?_
                           rotate_left
                           · simp only [putAll, Act.put, Ext.sb, Ext.sz, Ext.ss]; rfl
                           refine one_ (i := 6) (N := some 27) zb4_1 rfl rfl (one_of HT_.out (by kernel_rfl)) (by decide) (fun K hK => ?_)
                           refine Kd.N_lit_step (Kd.slice 5 (Kd.int .u8)) _ 24 ?hg (N' := 27) ?hd (xs := ([y114, y119] : List (List Int))) (inner := [.slice A0 y114.length c0, .slice A28 y119.length c28]) (ok := (ok4_6 P0_ w v129)) (okp := (ok4_6 P0_ w v129)) ?hr ?hp (fun _ hk => hk) ((show ∀ k_, w31.heap.size ≤ k_ → (ok4_6 P0_ w v129) k_ from fun k_ hk => ⟨(.inr (Nat.le_trans (below_size (Ext.nB HB.out)) hk)), Kd.fresh' (Kd.N_lt (Ext.nN HO130.out)) k_ hk⟩) _ (Nat.le_refl _)) (Below.refl _ _) (Nat.le_refl _) (by simp) ?_; (case hd => rfl); (case hg => rfl); (case hr => first | (go_simp; done) | (go_simp; rfl)); (case hp => exact (Reps.one (show Kd.FK (Kd.slice 5 (Kd.int .u8)) _ _ y114 [.slice A0 y114.length c0] from (Kd.FK_slice_mk (Kd.V_reads' (Kd.V_mono (e := 0) (base := 0) (ok' := (ok4_6 P0_ w v129)) (HO118.out) (fun k_ hk => ⟨hk.1, hk.2⟩))).2.1 (Kd.V_F (e := 0) (base := 0) (Kd.V_mono (e := 0) (base := 0) (ok' := (ok4_6 P0_ w v129)) (HO118.out) (fun k_ hk => ⟨hk.1, hk.2⟩))))) (Reps.one (show Kd.FK (Kd.slice 5 (Kd.int .u8)) _ _ y119 [.slice A28 y119.length c28] from (Kd.FK_slice_mk (Kd.V_reads' (Kd.V_mono (e := 0) (base := 0) (ok' := (ok4_6 P0_ w v129)) (HO123.out) (fun k_ hk => ⟨hk.1, hk.2⟩))).2.1 (Kd.V_F (e := 0) (base := 0) (Kd.V_mono (e := 0) (base := 0) (ok' := (ok4_6 P0_ w v129)) (HO123.out) (fun k_ hk => ⟨hk.1, hk.2⟩))))) (Reps.none _ _))))
                           intro v125 w32 ho33 hb hg_ hnew_
                           clear hg_ hnew_
                           (first | rw [← Ny124.out] at ho33 | (simp only [Int.reduceToNat] at ho33; rw [← Ny124.out] at ho33))
                           have n0_ := Ext.a (Kd.V_elder' (Ext.nV HO_0.out) (Kd.N_base ho33) hb)
                           have n1_ := Ext.a (Kd.V_elder' (Ext.nV HO118.out) (Kd.N_base ho33) hb)
                           have n2_ := Ext.a (Kd.V_elder' (Ext.nV HO123.out) (Kd.N_base ho33) hb)
                           have n3_ := Ext.a (Kd.N_elder' (Ext.nN HO130.out) (Kd.N_base ho33) hb)
                           have n4_ := Ext.a (Kd.N_lower ho33 (below_size (Ext.nB HB.out)))
                           have n5_ := Ext.a (below_step (Ext.nB HB.out) hb)
                           clear HO_0
                           clear HO118
                           clear HO123
                           clear HO130
                           clear HB
                           have HO_0 := n0_
                           have HO118 := n1_
                           have HO123 := n2_
                           have HO130 := n3_
                           have HO126 := n4_
                           have HB := n5_
                           clear n0_ n1_ n2_ n3_ n4_ n5_
                           clear hb ho33
                           refine hK.out _ _ trivial (fun hHeld => ?_)
                           clear hK K
                           refine norm_ (a' := ?_) ?_ ?_
                           rotate_left
                           · show Act.put _ (some 27) _ = _; simp only [Act.put, Ext.sb, Ext.sz, Ext.ss, i64_w, i32_w]; rfl
                           exact norm_ (by first | (simp only [putAll, Act.put, Ext.sb, Ext.sz, Ext.ss]; done) | (simp only [putAll, Act.put, Ext.sb, Ext.sz, Ext.ss]; rfl)) (hJ6_9 (v125, v129) _ ⟨(Ext.nV (Kd.V_mono HO118.out (fun _ hk => ⟨hk.1.1, ⟨hk.2, hk.1.2⟩⟩))), (Ext.nV (Kd.V_mono HO123.out (fun _ hk => ⟨hk.1.1, ⟨hk.2, hk.1.2⟩⟩))), (Ext.nN HO126.out), (Ext.nN HO130.out), (Ext.nV (Kd.V_mono HO_0.out (fun _ hk => ⟨hk.1.1, ⟨hk.2, hk.1.2⟩⟩))), (Ext.nB HB.out)⟩)
                         ·
                          skip
                          rintro v125 w31 ⟨h0_, h1_, h2_, h3_, h4_⟩
                          have n0_ : Aside0 (Kd.V (Kd.int .u8) 5 w31 w.heap.size (ok4_6 P0_ w v125) (.slice A0 y114.length c0) y114) := ⟨h0_⟩
                          have n1_ : Aside0 (Kd.V (Kd.int .u8) 5 w31 w.heap.size (ok4_6 P0_ w v125) (.slice A28 y119.length c28) y119) := ⟨h1_⟩
                          have n2_ : Aside0 (Kd.N (Kd.slice 5 (Kd.int .u8)) 24 w31 w.heap.size (ok4_0 P0_ w) v125 y124) := ⟨h2_⟩
                          have n3_ : Aside0 (Kd.V (Kd.int .u8) 5 w31 w.heap.size (ok4_6 P0_ w v125) (.slice A0 l0.length c0) l0) := ⟨h3_⟩
                          have n4_ : Aside0 (Below w.heap.size w w31) := ⟨h4_⟩
                          clear HO_0
                          clear HB
                          clear h0_ h1_ h2_ h3_ h4_
                          have HO118 := n0_
                          have HO123 := n1_
                          have HO126 := n2_
                          have HO_0 := n3_
                          have HB := n4_
                          clear n0_ n1_ n2_ n3_ n4_
                          have hHeld := trivial
                          obtain ⟨Ao32, co32, eo32⟩ := Kd.N_slice HO126.out
                          (first | subst eo32 | (injection eo32 with f1_ f2_ f3_; have f4_ := f1_.symm; have f5_ := f3_.symm; clear f1_ f2_ f3_; subst f4_; subst f5_))
                          refine norm_ (a' := ?_) ?_ ?_
                          rotate_left
                          · simp only [putAll, Act.put, Ext.sb, Ext.sz, Ext.ss]; rfl
                          refine two_ (i := 7) (j := 9) (Ni := some 28) (Nj := some 30) zb4_6 zb4_1 rfl rfl rfl rfl (two_of HT_.out (by kernel_rfl)) (by decide) (by decide) (fun K hK => ?_) (fun K hK => ?_)
                          ·
                           skip
                           refine goes_ Try.func9 (by kernel_rfl) rfl #[.slice Ao32 y124.length co32] (by rfl) rfl rfl (by (try simp only [List.map_toArray, List.map_cons, List.map_nil]); first | done | rfl | (simp only [List.length_drop, List.length_take]; rfl)) ?_
                           with_reducible refine (sum_Sum.calls kj7 _ _ y124 t127 _ ?side1 ?side2 A18.out).mono ?_
                           (case side1 => exact Ext.nC (Kd.N_reads' HO126.out).2.2)
                           (case side2 => exact (Kd.N_reads' HO126.out).2.1)
                           rintro e w' ⟨rfl, ⟨nd, rfl⟩⟩
                           refine ⟨_, rfl, ?_⟩
                           refine hK.out _ _ trivial (fun hHeld => ?_)
                           clear hK K
                           refine norm_ (a' := ?_) ?_ ?_
                           rotate_left
                           · show Act.put _ (some 28) _ = _; simp only [Act.put, Ext.sb, Ext.sz, Ext.ss, i64_w, i32_w]; rfl
                           exact norm_ (by first | (simp only [putAll, Act.put, Ext.sb, Ext.sz, Ext.ss]; done) | (simp only [putAll, Act.put, Ext.sb, Ext.sz, Ext.ss]; rfl)) (hJ6_7 (.slice Ao32 y124.length co32) _ ⟨(Ext.nV HO118.out), (Ext.nV HO123.out), (Ext.nN HO126.out), (Ext.nV HO_0.out), (Ext.nB HB.out)⟩)
                          ·
                           skip
                           refine Kd.N_lit_step (Kd.slice 5 (Kd.int .u8)) _ 24 ?hg (N' := 30) ?hd (xs := ([l0] : List (List Int))) (inner := [.slice A0 l0.length c0]) (ok := (ok4_6 P0_ w (.slice Ao32 y124.length co32))) (okp := (ok4_6 P0_ w (.slice Ao32 y124.length co32))) ?hr ?hp (fun _ hk => hk) ((show ∀ k_, w31.heap.size ≤ k_ → (ok4_6 P0_ w (.slice Ao32 y124.length co32)) k_ from fun k_ hk => ⟨(.inr (Nat.le_trans (below_size (Ext.nB HB.out)) hk)), Kd.fresh' (Kd.N_lt (Ext.nN HO126.out)) k_ hk⟩) _ (Nat.le_refl _)) (Below.refl _ _) (Nat.le_refl _) (by simp) ?_; (case hd => rfl); (case hg => rfl); (case hr => first | (go_simp; done) | (go_simp; rfl)); (case hp => exact (Reps.one (show Kd.FK (Kd.slice 5 (Kd.int .u8)) _ _ l0 [.slice A0 l0.length c0] from (Kd.FK_slice_mk (Kd.V_reads' (Kd.V_mono (e := 0) (base := 0) (ok' := (ok4_6 P0_ w (.slice Ao32 y124.length co32))) (HO_0.out) (fun k_ hk => ⟨hk.1, hk.2⟩))).2.1 (Kd.V_F (e := 0) (base := 0) (Kd.V_mono (e := 0) (base := 0) (ok' := (ok4_6 P0_ w (.slice Ao32 y124.length co32))) (HO_0.out) (fun k_ hk => ⟨hk.1, hk.2⟩))))) (Reps.none _ _)))
                           intro v129 w32 ho33 hb hg_ hnew_
                           clear hg_ hnew_
                           (first | rw [← Ny128.out] at ho33 | (simp only [Int.reduceToNat] at ho33; rw [← Ny128.out] at ho33))
                           have n0_ := Ext.a (Kd.V_elder' (Ext.nV HO_0.out) (Kd.N_base ho33) hb)
                           have n1_ := Ext.a (Kd.V_elder' (Ext.nV HO118.out) (Kd.N_base ho33) hb)
                           have n2_ := Ext.a (Kd.V_elder' (Ext.nV HO123.out) (Kd.N_base ho33) hb)
                           have n3_ := Ext.a (Kd.N_elder' (Ext.nN HO126.out) (Kd.N_base ho33) hb)
                           have n4_ := Ext.a (Kd.N_lower ho33 (below_size (Ext.nB HB.out)))
                           have n5_ := Ext.a (below_step (Ext.nB HB.out) hb)
                           clear HO_0
                           clear HO118
                           clear HO123
                           clear HO126
                           clear HB
                           have HO_0 := n0_
                           have HO118 := n1_
                           have HO123 := n2_
                           have HO126 := n3_
                           have HO130 := n4_
                           have HB := n5_
                           clear n0_ n1_ n2_ n3_ n4_ n5_
                           clear hb ho33
                           refine hK.out _ _ trivial (fun hHeld => ?_)
                           clear hK K
                           refine norm_ (a' := ?_) ?_ ?_
                           rotate_left
                           · show Act.put _ (some 30) _ = _; simp only [Act.put, Ext.sb, Ext.sz, Ext.ss, i64_w, i32_w]; rfl
                           exact norm_ (by first | (simp only [putAll, Act.put, Ext.sb, Ext.sz, Ext.ss]; done) | (simp only [putAll, Act.put, Ext.sb, Ext.sz, Ext.ss]; rfl)) (hJ6_9 ((.slice Ao32 y124.length co32), v129) _ ⟨(Ext.nV (Kd.V_mono HO118.out (fun _ hk => ⟨hk.1.1, ⟨hk.1.2, hk.2⟩⟩))), (Ext.nV (Kd.V_mono HO123.out (fun _ hk => ⟨hk.1.1, ⟨hk.1.2, hk.2⟩⟩))), (Ext.nN HO126.out), (Ext.nN HO130.out), (Ext.nV (Kd.V_mono HO_0.out (fun _ hk => ⟨hk.1.1, ⟨hk.1.2, hk.2⟩⟩))), (Ext.nB HB.out)⟩)
                        ·
                         skip
                         rintro ⟨v125, v129⟩ w33 ⟨h0_, h1_, h2_, h3_, h4_, h5_⟩
                         have n0_ : Aside0 (Kd.V (Kd.int .u8) 5 w33 w.heap.size (ok4_5 P0_ w v125 v129) (.slice A0 y114.length c0) y114) := ⟨h0_⟩
                         have n1_ : Aside0 (Kd.V (Kd.int .u8) 5 w33 w.heap.size (ok4_5 P0_ w v125 v129) (.slice A28 y119.length c28) y119) := ⟨h1_⟩
                         have n2_ : Aside0 (Kd.N (Kd.slice 5 (Kd.int .u8)) 24 w33 w.heap.size (ok4_6 P0_ w v129) v125 y124) := ⟨h2_⟩
                         have n3_ : Aside0 (Kd.N (Kd.slice 5 (Kd.int .u8)) 24 w33 w.heap.size (ok4_6 P0_ w v125) v129 y128) := ⟨h3_⟩
                         have n4_ : Aside0 (Kd.V (Kd.int .u8) 5 w33 w.heap.size (ok4_5 P0_ w v125 v129) (.slice A0 l0.length c0) l0) := ⟨h4_⟩
                         have n5_ : Aside0 (Below w.heap.size w w33) := ⟨h5_⟩
                         clear HO_0
                         clear HB
                         clear h0_ h1_ h2_ h3_ h4_ h5_
                         have HO118 := n0_
                         have HO123 := n1_
                         have HO126 := n2_
                         have HO130 := n3_
                         have HO_0 := n4_
                         have HB := n5_
                         clear n0_ n1_ n2_ n3_ n4_ n5_
                         have hHeld := trivial
                         obtain ⟨Ao34, co34, eo34⟩ := Kd.N_slice HO126.out
                         (first | subst eo34 | (injection eo34 with f1_ f2_ f3_; have f4_ := f1_.symm; have f5_ := f3_.symm; clear f1_ f2_ f3_; subst f4_; subst f5_))
                         refine norm_ (a' := ?_) ?_ ?_
                         rotate_left
                         · simp only [putAll, Act.put, Ext.sb, Ext.sz, Ext.ss]; rfl
                         refine one_ (i := 7) (N := some 28) zb4_0 rfl rfl (one_of HT_.out (by kernel_rfl)) (by decide) (fun K hK => ?_)
                         refine goes_ Try.func9 (by kernel_rfl) rfl #[.slice Ao34 y124.length co34] (by rfl) rfl rfl (by (try simp only [List.map_toArray, List.map_cons, List.map_nil]); first | done | rfl | (simp only [List.length_drop, List.length_take]; rfl)) ?_
                         with_reducible refine (sum_Sum.calls kj7 _ _ y124 t127 _ ?side1 ?side2 A18.out).mono ?_
                         (case side1 => exact Ext.nC (Kd.N_reads' HO126.out).2.2)
                         (case side2 => exact (Kd.N_reads' HO126.out).2.1)
                         rintro e w' ⟨rfl, ⟨nd, rfl⟩⟩
                         refine ⟨_, rfl, ?_⟩
                         refine hK.out _ _ trivial (fun hHeld => ?_)
                         clear hK K
                         refine norm_ (a' := ?_) ?_ ?_
                         rotate_left
                         · show Act.put _ (some 28) _ = _; simp only [Act.put, Ext.sb, Ext.sz, Ext.ss, i64_w, i32_w]; rfl
                         exact norm_ (by first | (simp only [putAll, Act.put, Ext.sb, Ext.sz, Ext.ss]; done) | (simp only [putAll, Act.put, Ext.sb, Ext.sz, Ext.ss]; rfl)) (hJ6_7_9 (.slice Ao34 y124.length co34, v129) _ ⟨(Ext.nV HO118.out), (Ext.nV HO123.out), (Ext.nN HO126.out), (Ext.nN HO130.out), (Ext.nV HO_0.out), (Ext.nB HB.out)⟩)
                       ·
                        skip
                        rintro v125 w32 ⟨h0_, h1_, h2_, h3_, h4_⟩
                        have n0_ : Aside0 (Kd.V (Kd.int .u8) 5 w32 w.heap.size (ok4_6 P0_ w v125) (.slice A0 y114.length c0) y114) := ⟨h0_⟩
                        have n1_ : Aside0 (Kd.V (Kd.int .u8) 5 w32 w.heap.size (ok4_6 P0_ w v125) (.slice A28 y119.length c28) y119) := ⟨h1_⟩
                        have n2_ : Aside0 (Kd.N (Kd.slice 5 (Kd.int .u8)) 24 w32 w.heap.size (ok4_0 P0_ w) v125 y124) := ⟨h2_⟩
                        have n3_ : Aside0 (Kd.V (Kd.int .u8) 5 w32 w.heap.size (ok4_6 P0_ w v125) (.slice A0 l0.length c0) l0) := ⟨h3_⟩
                        have n4_ : Aside0 (Below w.heap.size w w32) := ⟨h4_⟩
                        clear HO_0
                        clear HB
                        clear h0_ h1_ h2_ h3_ h4_
                        have HO118 := n0_
                        have HO123 := n1_
                        have HO126 := n2_
                        have HO_0 := n3_
                        have HB := n4_
                        clear n0_ n1_ n2_ n3_ n4_
                        have hHeld := trivial
                        refine norm_ (a' := ?_) ?_ ?_
                        rotate_left
                        · simp only [putAll, Act.put, Ext.sb, Ext.sz, Ext.ss]; rfl
                        refine one_ (i := 9) (N := some 30) zb4_0 rfl rfl (one_of HT_.out (by kernel_rfl)) (by decide) (fun K hK => ?_)
                        refine Kd.N_lit_step (Kd.slice 5 (Kd.int .u8)) _ 24 ?hg (N' := 30) ?hd (xs := ([l0] : List (List Int))) (inner := [.slice A0 l0.length c0]) (ok := (ok4_6 P0_ w v125)) (okp := (ok4_6 P0_ w v125)) ?hr ?hp (fun _ hk => hk) ((show ∀ k_, w32.heap.size ≤ k_ → (ok4_6 P0_ w v125) k_ from fun k_ hk => ⟨(.inr (Nat.le_trans (below_size (Ext.nB HB.out)) hk)), Kd.fresh' (Kd.N_lt (Ext.nN HO126.out)) k_ hk⟩) _ (Nat.le_refl _)) (Below.refl _ _) (Nat.le_refl _) (by simp) ?_; (case hd => rfl); (case hg => rfl); (case hr => first | (go_simp; done) | (go_simp; rfl)); (case hp => exact (Reps.one (show Kd.FK (Kd.slice 5 (Kd.int .u8)) _ _ l0 [.slice A0 l0.length c0] from (Kd.FK_slice_mk (Kd.V_reads' (Kd.V_mono (e := 0) (base := 0) (ok' := (ok4_6 P0_ w v125)) (HO_0.out) (fun k_ hk => ⟨hk.1, hk.2⟩))).2.1 (Kd.V_F (e := 0) (base := 0) (Kd.V_mono (e := 0) (base := 0) (ok' := (ok4_6 P0_ w v125)) (HO_0.out) (fun k_ hk => ⟨hk.1, hk.2⟩))))) (Reps.none _ _)))
                        intro v129 w33 ho34 hb hg_ hnew_
                        clear hg_ hnew_
                        (first | rw [← Ny128.out] at ho34 | (simp only [Int.reduceToNat] at ho34; rw [← Ny128.out] at ho34))
                        have n0_ := Ext.a (Kd.V_elder' (Ext.nV HO_0.out) (Kd.N_base ho34) hb)
                        have n1_ := Ext.a (Kd.V_elder' (Ext.nV HO118.out) (Kd.N_base ho34) hb)
                        have n2_ := Ext.a (Kd.V_elder' (Ext.nV HO123.out) (Kd.N_base ho34) hb)
                        have n3_ := Ext.a (Kd.N_elder' (Ext.nN HO126.out) (Kd.N_base ho34) hb)
                        have n4_ := Ext.a (Kd.N_lower ho34 (below_size (Ext.nB HB.out)))
                        have n5_ := Ext.a (below_step (Ext.nB HB.out) hb)
                        clear HO_0
                        clear HO118
                        clear HO123
                        clear HO126
                        clear HB
                        have HO_0 := n0_
                        have HO118 := n1_
                        have HO123 := n2_
                        have HO126 := n3_
                        have HO130 := n4_
                        have HB := n5_
                        clear n0_ n1_ n2_ n3_ n4_ n5_
                        clear hb ho34
                        refine hK.out _ _ trivial (fun hHeld => ?_)
                        clear hK K
                        refine norm_ (a' := ?_) ?_ ?_
                        rotate_left
                        · show Act.put _ (some 30) _ = _; simp only [Act.put, Ext.sb, Ext.sz, Ext.ss, i64_w, i32_w]; rfl
                        exact norm_ (by first | (simp only [putAll, Act.put, Ext.sb, Ext.sz, Ext.ss]; done) | (simp only [putAll, Act.put, Ext.sb, Ext.sz, Ext.ss]; rfl)) (hJ6_7_9 (v125, v129) _ ⟨(Ext.nV (Kd.V_mono HO118.out (fun _ hk => ⟨hk.1.1, ⟨hk.1.2, hk.2⟩⟩))), (Ext.nV (Kd.V_mono HO123.out (fun _ hk => ⟨hk.1.1, ⟨hk.1.2, hk.2⟩⟩))), (Ext.nN HO126.out), (Ext.nN HO130.out), (Ext.nV (Kd.V_mono HO_0.out (fun _ hk => ⟨hk.1.1, ⟨hk.1.2, hk.2⟩⟩))), (Ext.nB HB.out)⟩)
                      ·
                       skip
                       rintro ⟨v125, v129⟩ w34 ⟨h0_, h1_, h2_, h3_, h4_, h5_⟩
                       have n0_ : Aside0 (Kd.V (Kd.int .u8) 5 w34 w.heap.size (ok4_5 P0_ w v125 v129) (.slice A0 y114.length c0) y114) := ⟨h0_⟩
                       have n1_ : Aside0 (Kd.V (Kd.int .u8) 5 w34 w.heap.size (ok4_5 P0_ w v125 v129) (.slice A28 y119.length c28) y119) := ⟨h1_⟩
                       have n2_ : Aside0 (Kd.N (Kd.slice 5 (Kd.int .u8)) 24 w34 w.heap.size (ok4_6 P0_ w v129) v125 y124) := ⟨h2_⟩
                       have n3_ : Aside0 (Kd.N (Kd.slice 5 (Kd.int .u8)) 24 w34 w.heap.size (ok4_6 P0_ w v125) v129 y128) := ⟨h3_⟩
                       have n4_ : Aside0 (Kd.V (Kd.int .u8) 5 w34 w.heap.size (ok4_5 P0_ w v125 v129) (.slice A0 l0.length c0) l0) := ⟨h4_⟩
                       have n5_ : Aside0 (Below w.heap.size w w34) := ⟨h5_⟩
                       clear HO_0
                       clear HB
                       clear h0_ h1_ h2_ h3_ h4_ h5_
                       have HO118 := n0_
                       have HO123 := n1_
                       have HO126 := n2_
                       have HO130 := n3_
                       have HO_0 := n4_
                       have HB := n5_
                       clear n0_ n1_ n2_ n3_ n4_ n5_
                       have hHeld := trivial
                       obtain ⟨Ao35, co35, eo35⟩ := Kd.N_slice HO130.out
                       (first | subst eo35 | (injection eo35 with f1_ f2_ f3_; have f4_ := f1_.symm; have f5_ := f3_.symm; clear f1_ f2_ f3_; subst f4_; subst f5_))
                       refine norm_ (a' := ?_) ?_ ?_
                       rotate_left
                       · simp only [putAll, Act.put, Ext.sb, Ext.sz, Ext.ss]; rfl
                       refine one_ (i := 10) (N := some 31) zb4_21 rfl rfl (one_of HT_.out (by kernel_rfl)) (by decide) (fun K hK => ?_)
                       refine goes_ Try.func9 (by kernel_rfl) rfl #[.slice Ao35 y128.length co35] (by rfl) rfl rfl (by (try simp only [List.map_toArray, List.map_cons, List.map_nil]); first | done | rfl | (simp only [List.length_drop, List.length_take]; rfl)) ?_
                       with_reducible refine (sum_Sum.calls kj7 _ _ y128 t131 _ ?side1 ?side2 A19.out).mono ?_
                       (case side1 => exact Ext.nC (Kd.N_reads' HO130.out).2.2)
                       (case side2 => exact (Kd.N_reads' HO130.out).2.1)
                       rintro e w' ⟨rfl, ⟨nd, rfl⟩⟩
                       refine ⟨_, rfl, ?_⟩
                       refine hK.out _ _ trivial (fun hHeld => ?_)
                       clear hK K
                       refine norm_ (a' := ?_) ?_ ?_
                       rotate_left
                       · show Act.put _ (some 31) _ = _; simp only [Act.put, Ext.sb, Ext.sz, Ext.ss, i64_w, i32_w]; rfl
                       refine pure_ (i := 11) (N := some 32) (v := ?_) (a' := ?_) zb4_22 rfl rfl (any_of HT_.out (by kernel_rfl)) (fun _ _ _ h => h) (Or.inl ⟨by rfl, ?_⟩) ?_ ?_
                       rotate_left
                       · intro w'; go_simp; with_reducible rfl
                       rotate_left
                       · simp only [Act.put, Ext.sb, Ext.sz, Ext.ss, i64_w, i32_w]; rfl
                       refine pure_ (i := 12) (N := some 33) (v := ?_) (a' := ?_) zb4_23 rfl rfl (any_of HT_.out (by kernel_rfl)) (fun _ _ _ h => h) (Or.inl ⟨by rfl, ?_⟩) ?_ ?_
                       rotate_left
                       · intro w'; go_simp; with_reducible rfl
                       rotate_left
                       · simp only [Act.put, Ext.sb, Ext.sz, Ext.ss, i64_w, i32_w]; rfl
                       refine pure_ (i := 13) (N := some 34) (v := ?_) (a' := ?_) zb4_24 rfl rfl (any_of HT_.out (by kernel_rfl)) (fun _ _ _ h => h) (Or.inl ⟨by rfl, ?_⟩) ?_ ?_
                       rotate_left
                       · intro w'; go_simp; with_reducible rfl
                       rotate_left
                       · simp only [Act.put, Ext.sb, Ext.sz, Ext.ss, i64_w, i32_w]; rfl
                       refine pure_ (i := 16) (N := some 37) (v := ?_) (a' := ?_) zb4_9 rfl rfl (any_of HT_.out (by kernel_rfl)) (fun _ _ _ h => h) (Or.inl ⟨by rfl, ?_⟩) ?_ ?_
                       rotate_left
                       · intro w'; go_simp; with_reducible rfl
                       rotate_left
                       · simp only [Act.put, Ext.sb, Ext.sz, Ext.ss, i64_w, i32_w]; rfl
                       exact norm_ (by first | (simp only [putAll, Act.put, Ext.sb, Ext.sz, Ext.ss]; done) | (simp only [putAll, Act.put, Ext.sb, Ext.sz, Ext.ss]; rfl)) (hJ6_7_9_10 (v125, .slice Ao35 y128.length co35) _ ⟨(Ext.nV HO118.out), (Ext.nV HO123.out), (Ext.nN HO126.out), (Ext.nN HO130.out), (Ext.nV HO_0.out), (Ext.nB HB.out)⟩)
                     ·
                      skip
                      rintro ⟨v125, v129⟩ w35 ⟨h0_, h1_, h2_, h3_, h4_, h5_⟩
                      have n0_ : Aside0 (Kd.V (Kd.int .u8) 5 w35 w.heap.size (ok4_5 P0_ w v125 v129) (.slice A0 y114.length c0) y114) := ⟨h0_⟩
                      have n1_ : Aside0 (Kd.V (Kd.int .u8) 5 w35 w.heap.size (ok4_5 P0_ w v125 v129) (.slice A28 y119.length c28) y119) := ⟨h1_⟩
                      have n2_ : Aside0 (Kd.N (Kd.slice 5 (Kd.int .u8)) 24 w35 w.heap.size (ok4_6 P0_ w v129) v125 y124) := ⟨h2_⟩
                      have n3_ : Aside0 (Kd.N (Kd.slice 5 (Kd.int .u8)) 24 w35 w.heap.size (ok4_6 P0_ w v125) v129 y128) := ⟨h3_⟩
                      have n4_ : Aside0 (Kd.V (Kd.int .u8) 5 w35 w.heap.size (ok4_5 P0_ w v125 v129) (.slice A0 l0.length c0) l0) := ⟨h4_⟩
                      have n5_ : Aside0 (Below w.heap.size w w35) := ⟨h5_⟩
                      clear HO_0
                      clear HB
                      clear h0_ h1_ h2_ h3_ h4_ h5_
                      have HO118 := n0_
                      have HO123 := n1_
                      have HO126 := n2_
                      have HO130 := n3_
                      have HO_0 := n4_
                      have HB := n5_
                      clear n0_ n1_ n2_ n3_ n4_ n5_
                      have hHeld := trivial
                      refine norm_ (a' := ?_) ?_ ?_
                      rotate_left
                      · simp only [putAll, Act.put, Ext.sb, Ext.sz, Ext.ss]; rfl
                      refine two_ (i := 14) (j := 17) (Ni := some 35) (Nj := some 38) zb4_10 zb4_11 rfl rfl rfl rfl (two_of HT_.out (by kernel_rfl)) (by decide) (by decide) (fun K hK => ?_) (fun K hK => ?_)
                      ·
                       skip
                       refine Kd.N_lit_step (Kd.slice 5 (Kd.int .u8)) _ 24 ?hg (N' := 35) ?hd (xs := ([l0, []] : List (List Int))) (inner := [.slice A0 l0.length c0, .slice none 0 0]) (ok := (ok4_5 P0_ w v125 v129)) (okp := (ok4_5 P0_ w v125 v129)) ?hr ?hp (fun _ hk => hk) ((show ∀ k_, w35.heap.size ≤ k_ → (ok4_5 P0_ w v125 v129) k_ from fun k_ hk => ⟨(.inr (Nat.le_trans (below_size (Ext.nB HB.out)) hk)), Kd.fresh' (Kd.N_lt (Ext.nN HO126.out)) k_ hk, Kd.fresh' (Kd.N_lt (Ext.nN HO130.out)) k_ hk⟩) _ (Nat.le_refl _)) (Below.refl _ _) (Nat.le_refl _) (by simp) ?_; (case hd => rfl); (case hg => rfl); (case hr => first | (go_simp; done) | (go_simp; rfl)); (case hp => exact (Reps.one (show Kd.FK (Kd.slice 5 (Kd.int .u8)) _ _ l0 [.slice A0 l0.length c0] from (Kd.FK_slice_mk (Kd.V_reads' (Kd.V_mono (e := 0) (base := 0) (ok' := (ok4_5 P0_ w v125 v129)) (HO_0.out) (fun k_ hk => ⟨hk.1, ⟨hk.2.1, hk.2.2⟩⟩))).2.1 (Kd.V_F (e := 0) (base := 0) (Kd.V_mono (e := 0) (base := 0) (ok' := (ok4_5 P0_ w v125 v129)) (HO_0.out) (fun k_ hk => ⟨hk.1, ⟨hk.2.1, hk.2.2⟩⟩))))) (Reps.one (show Kd.FK (Kd.slice 5 (Kd.int .u8)) _ _ [] [.slice none 0 0] from (Kd.FK_slice_mk (Nat.le_refl _) (Kd.F_nil _ _ _))) (Reps.none _ _))))
                       intro v133 w36 ho37 hb hg_ hnew_
                       clear hg_ hnew_
                       (first | rw [← Ny132.out] at ho37 | (simp only [Int.reduceToNat] at ho37; rw [← Ny132.out] at ho37))
                       have n0_ := Ext.a (Kd.V_elder' (Ext.nV HO_0.out) (Kd.N_base ho37) hb)
                       have n1_ := Ext.a (Kd.V_elder' (Ext.nV HO118.out) (Kd.N_base ho37) hb)
                       have n2_ := Ext.a (Kd.V_elder' (Ext.nV HO123.out) (Kd.N_base ho37) hb)
                       have n3_ := Ext.a (Kd.N_elder' (Ext.nN HO126.out) (Kd.N_base ho37) hb)
                       have n4_ := Ext.a (Kd.N_elder' (Ext.nN HO130.out) (Kd.N_base ho37) hb)
                       have n5_ := Ext.a (Kd.N_lower ho37 (below_size (Ext.nB HB.out)))
                       have n6_ := Ext.a (below_step (Ext.nB HB.out) hb)
                       clear HO_0
                       clear HO118
                       clear HO123
                       clear HO126
                       clear HO130
                       clear HB
                       have HO_0 := n0_
                       have HO118 := n1_
                       have HO123 := n2_
                       have HO126 := n3_
                       have HO130 := n4_
                       have HO134 := n5_
                       have HB := n6_
                       clear n0_ n1_ n2_ n3_ n4_ n5_ n6_
                       clear hb ho37
                       refine hK.out _ _ trivial (fun hHeld => ?_)
                       clear hK K
                       refine norm_ (a' := ?_) ?_ ?_
                       rotate_left
                       · show Act.put _ (some 35) _ = _; simp only [Act.put, Ext.sb, Ext.sz, Ext.ss, i64_w, i32_w]; rfl
                       exact norm_ (by first | (simp only [putAll, Act.put, Ext.sb, Ext.sz, Ext.ss]; done) | (simp only [putAll, Act.put, Ext.sb, Ext.sz, Ext.ss]; rfl)) (hJ6_7_9_10_14 (v125, v129, v133) _ ⟨(Ext.nV (Kd.V_mono HO118.out (fun _ hk => ⟨hk.1.1, ⟨hk.1.2.1, ⟨hk.1.2.2, hk.2⟩⟩⟩))), (Ext.nV (Kd.V_mono HO123.out (fun _ hk => ⟨hk.1.1, ⟨hk.1.2.1, ⟨hk.1.2.2, hk.2⟩⟩⟩))), (Ext.nN (Kd.N_mono HO126.out (fun _ hk => ⟨hk.1.1, ⟨hk.1.2, hk.2⟩⟩))), (Ext.nN (Kd.N_mono HO130.out (fun _ hk => ⟨hk.1.1, ⟨hk.1.2, hk.2⟩⟩))), (Ext.nN HO134.out), (Ext.nV (Kd.V_mono HO_0.out (fun _ hk => ⟨hk.1.1, ⟨hk.1.2.1, ⟨hk.1.2.2, hk.2⟩⟩⟩))), (Ext.nB HB.out)⟩)
                      ·
                       skip
                       refine Kd.N_lit_step (Kd.slice 5 (Kd.int .u8)) _ 24 ?hg (N' := 38) ?hd (xs := ([l0] : List (List Int))) (inner := [.slice A0 l0.length c0]) (ok := (ok4_5 P0_ w v125 v129)) (okp := (ok4_5 P0_ w v125 v129)) ?hr ?hp (fun _ hk => hk) ((show ∀ k_, w35.heap.size ≤ k_ → (ok4_5 P0_ w v125 v129) k_ from fun k_ hk => ⟨(.inr (Nat.le_trans (below_size (Ext.nB HB.out)) hk)), Kd.fresh' (Kd.N_lt (Ext.nN HO126.out)) k_ hk, Kd.fresh' (Kd.N_lt (Ext.nN HO130.out)) k_ hk⟩) _ (Nat.le_refl _)) (Below.refl _ _) (Nat.le_refl _) (by simp) ?_; (case hd => rfl); (case hg => rfl); (case hr => first | (go_simp; done) | (go_simp; rfl)); (case hp => exact (Reps.one (show Kd.FK (Kd.slice 5 (Kd.int .u8)) _ _ l0 [.slice A0 l0.length c0] from (Kd.FK_slice_mk (Kd.V_reads' (Kd.V_mono (e := 0) (base := 0) (ok' := (ok4_5 P0_ w v125 v129)) (HO_0.out) (fun k_ hk => ⟨hk.1, ⟨hk.2.1, hk.2.2⟩⟩))).2.1 (Kd.V_F (e := 0) (base := 0) (Kd.V_mono (e := 0) (base := 0) (ok' := (ok4_5 P0_ w v125 v129)) (HO_0.out) (fun k_ hk => ⟨hk.1, ⟨hk.2.1, hk.2.2⟩⟩))))) (Reps.none _ _)))
                       intro v137 w36 ho37 hb hg_ hnew_
                       clear hg_ hnew_
                       (first | rw [← Ny136.out] at ho37 | (simp only [Int.reduceToNat] at ho37; rw [← Ny136.out] at ho37))
                       have n0_ := Ext.a (Kd.V_elder' (Ext.nV HO_0.out) (Kd.N_base ho37) hb)
                       have n1_ := Ext.a (Kd.V_elder' (Ext.nV HO118.out) (Kd.N_base ho37) hb)
                       have n2_ := Ext.a (Kd.V_elder' (Ext.nV HO123.out) (Kd.N_base ho37) hb)
                       have n3_ := Ext.a (Kd.N_elder' (Ext.nN HO126.out) (Kd.N_base ho37) hb)
                       have n4_ := Ext.a (Kd.N_elder' (Ext.nN HO130.out) (Kd.N_base ho37) hb)
                       have n5_ := Ext.a (Kd.N_lower ho37 (below_size (Ext.nB HB.out)))
                       have n6_ := Ext.a (below_step (Ext.nB HB.out) hb)
                       clear HO_0
                       clear HO118
                       clear HO123
                       clear HO126
                       clear HO130
                       clear HB
                       have HO_0 := n0_
                       have HO118 := n1_
                       have HO123 := n2_
                       have HO126 := n3_
                       have HO130 := n4_
                       have HO138 := n5_
                       have HB := n6_
                       clear n0_ n1_ n2_ n3_ n4_ n5_ n6_
                       clear hb ho37
                       refine hK.out _ _ trivial (fun hHeld => ?_)
                       clear hK K
                       refine norm_ (a' := ?_) ?_ ?_
                       rotate_left
                       · show Act.put _ (some 38) _ = _; simp only [Act.put, Ext.sb, Ext.sz, Ext.ss, i64_w, i32_w]; rfl
                       exact norm_ (by first | (simp only [putAll, Act.put, Ext.sb, Ext.sz, Ext.ss]; done) | (simp only [putAll, Act.put, Ext.sb, Ext.sz, Ext.ss]; rfl)) (hJ6_7_9_10_17 (v125, v129, v137) _ ⟨(Ext.nV (Kd.V_mono HO118.out (fun _ hk => ⟨hk.1.1, ⟨hk.1.2.1, ⟨hk.1.2.2, hk.2⟩⟩⟩))), (Ext.nV (Kd.V_mono HO123.out (fun _ hk => ⟨hk.1.1, ⟨hk.1.2.1, ⟨hk.1.2.2, hk.2⟩⟩⟩))), (Ext.nN (Kd.N_mono HO126.out (fun _ hk => ⟨hk.1.1, ⟨hk.1.2, hk.2⟩⟩))), (Ext.nN (Kd.N_mono HO130.out (fun _ hk => ⟨hk.1.1, ⟨hk.1.2, hk.2⟩⟩))), (Ext.nN HO138.out), (Ext.nV (Kd.V_mono HO_0.out (fun _ hk => ⟨hk.1.1, ⟨hk.1.2.1, ⟨hk.1.2.2, hk.2⟩⟩⟩))), (Ext.nB HB.out)⟩)
                    ·
                     skip
                     rintro ⟨v125, v129, v137⟩ w37 ⟨h0_, h1_, h2_, h3_, h4_, h5_, h6_⟩
                     have n0_ : Aside0 (Kd.V (Kd.int .u8) 5 w37 w.heap.size (ok4_4 P0_ w v125 v129 v137) (.slice A0 y114.length c0) y114) := ⟨h0_⟩
                     have n1_ : Aside0 (Kd.V (Kd.int .u8) 5 w37 w.heap.size (ok4_4 P0_ w v125 v129 v137) (.slice A28 y119.length c28) y119) := ⟨h1_⟩
                     have n2_ : Aside0 (Kd.N (Kd.slice 5 (Kd.int .u8)) 24 w37 w.heap.size (ok4_5 P0_ w v129 v137) v125 y124) := ⟨h2_⟩
                     have n3_ : Aside0 (Kd.N (Kd.slice 5 (Kd.int .u8)) 24 w37 w.heap.size (ok4_5 P0_ w v125 v137) v129 y128) := ⟨h3_⟩
                     have n4_ : Aside0 (Kd.N (Kd.slice 5 (Kd.int .u8)) 24 w37 w.heap.size (ok4_5 P0_ w v125 v129) v137 y136) := ⟨h4_⟩
                     have n5_ : Aside0 (Kd.V (Kd.int .u8) 5 w37 w.heap.size (ok4_4 P0_ w v125 v129 v137) (.slice A0 l0.length c0) l0) := ⟨h5_⟩
                     have n6_ : Aside0 (Below w.heap.size w w37) := ⟨h6_⟩
                     clear HO_0
                     clear HB
                     clear h0_ h1_ h2_ h3_ h4_ h5_ h6_
                     have HO118 := n0_
                     have HO123 := n1_
                     have HO126 := n2_
                     have HO130 := n3_
                     have HO138 := n4_
                     have HO_0 := n5_
                     have HB := n6_
                     clear n0_ n1_ n2_ n3_ n4_ n5_ n6_
                     have hHeld := trivial
                     refine norm_ (a' := ?_) ?_ ?_
                     rotate_left
                     · simp only [putAll, Act.put, Ext.sb, Ext.sz, Ext.ss]; rfl
                     refine one_ (i := 14) (N := some 35) zb4_3 rfl rfl (one_of HT_.out (by kernel_rfl)) (by decide) (fun K hK => ?_)
                     refine Kd.N_lit_step (Kd.slice 5 (Kd.int .u8)) _ 24 ?hg (N' := 35) ?hd (xs := ([l0, []] : List (List Int))) (inner := [.slice A0 l0.length c0, .slice none 0 0]) (ok := (ok4_4 P0_ w v125 v129 v137)) (okp := (ok4_4 P0_ w v125 v129 v137)) ?hr ?hp (fun _ hk => hk) ((show ∀ k_, w37.heap.size ≤ k_ → (ok4_4 P0_ w v125 v129 v137) k_ from fun k_ hk => ⟨(.inr (Nat.le_trans (below_size (Ext.nB HB.out)) hk)), Kd.fresh' (Kd.N_lt (Ext.nN HO126.out)) k_ hk, Kd.fresh' (Kd.N_lt (Ext.nN HO130.out)) k_ hk, Kd.fresh' (Kd.N_lt (Ext.nN HO138.out)) k_ hk⟩) _ (Nat.le_refl _)) (Below.refl _ _) (Nat.le_refl _) (by simp) ?_; (case hd => rfl); (case hg => rfl); (case hr => first | (go_simp; done) | (go_simp; rfl)); (case hp => exact (Reps.one (show Kd.FK (Kd.slice 5 (Kd.int .u8)) _ _ l0 [.slice A0 l0.length c0] from (Kd.FK_slice_mk (Kd.V_reads' (Kd.V_mono (e := 0) (base := 0) (ok' := (ok4_4 P0_ w v125 v129 v137)) (HO_0.out) (fun k_ hk => ⟨hk.1, ⟨hk.2.1, ⟨hk.2.2.1, hk.2.2.2⟩⟩⟩))).2.1 (Kd.V_F (e := 0) (base := 0) (Kd.V_mono (e := 0) (base := 0) (ok' := (ok4_4 P0_ w v125 v129 v137)) (HO_0.out) (fun k_ hk => ⟨hk.1, ⟨hk.2.1, ⟨hk.2.2.1, hk.2.2.2⟩⟩⟩))))) (Reps.one (show Kd.FK (Kd.slice 5 (Kd.int .u8)) _ _ [] [.slice none 0 0] from (Kd.FK_slice_mk (Nat.le_refl _) (Kd.F_nil _ _ _))) (Reps.none _ _))))
                     intro v133 w38 ho39 hb hg_ hnew_
                     clear hg_ hnew_
                     (first | rw [← Ny132.out] at ho39 | (simp only [Int.reduceToNat] at ho39; rw [← Ny132.out] at ho39))
                     have n0_ := Ext.a (Kd.V_elder' (Ext.nV HO_0.out) (Kd.N_base ho39) hb)
                     have n1_ := Ext.a (Kd.V_elder' (Ext.nV HO118.out) (Kd.N_base ho39) hb)
                     have n2_ := Ext.a (Kd.V_elder' (Ext.nV HO123.out) (Kd.N_base ho39) hb)
                     have n3_ := Ext.a (Kd.N_elder' (Ext.nN HO126.out) (Kd.N_base ho39) hb)
                     have n4_ := Ext.a (Kd.N_elder' (Ext.nN HO130.out) (Kd.N_base ho39) hb)
                     have n5_ := Ext.a (Kd.N_elder' (Ext.nN HO138.out) (Kd.N_base ho39) hb)
                     have n6_ := Ext.a (Kd.N_lower ho39 (below_size (Ext.nB HB.out)))
                     have n7_ := Ext.a (below_step (Ext.nB HB.out) hb)
                     clear HO_0
                     clear HO118
                     clear HO123
                     clear HO126
                     clear HO130
                     clear HO138
                     clear HB
                     have HO_0 := n0_
                     have HO118 := n1_
                     have HO123 := n2_
                     have HO126 := n3_
                     have HO130 := n4_
                     have HO138 := n5_
                     have HO134 := n6_
                     have HB := n7_
                     clear n0_ n1_ n2_ n3_ n4_ n5_ n6_ n7_
                     clear hb ho39
                     refine hK.out _ _ trivial (fun hHeld => ?_)
                     clear hK K
                     refine norm_ (a' := ?_) ?_ ?_
                     rotate_left
                     · show Act.put _ (some 35) _ = _; simp only [Act.put, Ext.sb, Ext.sz, Ext.ss, i64_w, i32_w]; rfl
                     exact norm_ (by first | (simp only [putAll, Act.put, Ext.sb, Ext.sz, Ext.ss]; done) | (simp only [putAll, Act.put, Ext.sb, Ext.sz, Ext.ss]; rfl)) (hJ6_7_9_10_14_17 (v125, v129, v133, v137) _ ⟨(Ext.nV (Kd.V_mono HO118.out (fun _ hk => ⟨hk.1.1, ⟨hk.1.2.1, ⟨hk.1.2.2.1, ⟨hk.2, hk.1.2.2.2⟩⟩⟩⟩))), (Ext.nV (Kd.V_mono HO123.out (fun _ hk => ⟨hk.1.1, ⟨hk.1.2.1, ⟨hk.1.2.2.1, ⟨hk.2, hk.1.2.2.2⟩⟩⟩⟩))), (Ext.nN (Kd.N_mono HO126.out (fun _ hk => ⟨hk.1.1, ⟨hk.1.2.1, ⟨hk.2, hk.1.2.2⟩⟩⟩))), (Ext.nN (Kd.N_mono HO130.out (fun _ hk => ⟨hk.1.1, ⟨hk.1.2.1, ⟨hk.2, hk.1.2.2⟩⟩⟩))), (Ext.nN HO134.out), (Ext.nN (Kd.N_mono HO138.out (fun _ hk => ⟨hk.1.1, ⟨hk.1.2.1, ⟨hk.1.2.2, hk.2⟩⟩⟩))), (Ext.nV (Kd.V_mono HO_0.out (fun _ hk => ⟨hk.1.1, ⟨hk.1.2.1, ⟨hk.1.2.2.1, ⟨hk.2, hk.1.2.2.2⟩⟩⟩⟩))), (Ext.nB HB.out)⟩)
                   ·
                    skip
                    rintro ⟨v125, v129, v133⟩ w37 ⟨h0_, h1_, h2_, h3_, h4_, h5_, h6_⟩
                    have n0_ : Aside0 (Kd.V (Kd.int .u8) 5 w37 w.heap.size (ok4_4 P0_ w v125 v129 v133) (.slice A0 y114.length c0) y114) := ⟨h0_⟩
                    have n1_ : Aside0 (Kd.V (Kd.int .u8) 5 w37 w.heap.size (ok4_4 P0_ w v125 v129 v133) (.slice A28 y119.length c28) y119) := ⟨h1_⟩
                    have n2_ : Aside0 (Kd.N (Kd.slice 5 (Kd.int .u8)) 24 w37 w.heap.size (ok4_5 P0_ w v129 v133) v125 y124) := ⟨h2_⟩
                    have n3_ : Aside0 (Kd.N (Kd.slice 5 (Kd.int .u8)) 24 w37 w.heap.size (ok4_5 P0_ w v125 v133) v129 y128) := ⟨h3_⟩
                    have n4_ : Aside0 (Kd.N (Kd.slice 5 (Kd.int .u8)) 24 w37 w.heap.size (ok4_5 P0_ w v125 v129) v133 y132) := ⟨h4_⟩
                    have n5_ : Aside0 (Kd.V (Kd.int .u8) 5 w37 w.heap.size (ok4_4 P0_ w v125 v129 v133) (.slice A0 l0.length c0) l0) := ⟨h5_⟩
                    have n6_ : Aside0 (Below w.heap.size w w37) := ⟨h6_⟩
                    clear HO_0
                    clear HB
                    clear h0_ h1_ h2_ h3_ h4_ h5_ h6_
                    have HO118 := n0_
                    have HO123 := n1_
                    have HO126 := n2_
                    have HO130 := n3_
                    have HO134 := n4_
                    have HO_0 := n5_
                    have HB := n6_
                    clear n0_ n1_ n2_ n3_ n4_ n5_ n6_
                    have hHeld := trivial
                    obtain ⟨Ao38, co38, eo38⟩ := Kd.N_slice HO134.out
                    (first | subst eo38 | (injection eo38 with f1_ f2_ f3_; have f4_ := f1_.symm; have f5_ := f3_.symm; clear f1_ f2_ f3_; subst f4_; subst f5_))
                    refine norm_ (a' := ?_) ?_ ?_
                    rotate_left
                    · simp only [putAll, Act.put, Ext.sb, Ext.sz, Ext.ss]; rfl
                    refine two_ (i := 15) (j := 17) (Ni := some 36) (Nj := some 38) zb4_7 zb4_3 rfl rfl rfl rfl (two_of HT_.out (by kernel_rfl)) (by decide) (by decide) (fun K hK => ?_) (fun K hK => ?_)
                    ·
                     skip
                     refine goes_ Try.func9 (by kernel_rfl) rfl #[.slice Ao38 y132.length co38] (by rfl) rfl rfl (by (try simp only [List.map_toArray, List.map_cons, List.map_nil]); first | done | rfl | (simp only [List.length_drop, List.length_take]; rfl)) ?_
                     with_reducible refine (sum_Sum.calls kj7 _ _ y132 t135 _ ?side1 ?side2 A21.out).mono ?_
                     (case side1 => exact Ext.nC (Kd.N_reads' HO134.out).2.2)
                     (case side2 => exact (Kd.N_reads' HO134.out).2.1)
                     rintro e w' ⟨rfl, ⟨nd, rfl⟩⟩
                     refine ⟨_, rfl, ?_⟩
                     refine hK.out _ _ trivial (fun hHeld => ?_)
                     clear hK K
                     refine norm_ (a' := ?_) ?_ ?_
                     rotate_left
                     · show Act.put _ (some 36) _ = _; simp only [Act.put, Ext.sb, Ext.sz, Ext.ss, i64_w, i32_w]; rfl
                     exact norm_ (by first | (simp only [putAll, Act.put, Ext.sb, Ext.sz, Ext.ss]; done) | (simp only [putAll, Act.put, Ext.sb, Ext.sz, Ext.ss]; rfl)) (hJ6_7_9_10_14_15 (v125, v129, .slice Ao38 y132.length co38) _ ⟨(Ext.nV HO118.out), (Ext.nV HO123.out), (Ext.nN HO126.out), (Ext.nN HO130.out), (Ext.nN HO134.out), (Ext.nV HO_0.out), (Ext.nB HB.out)⟩)
                    ·
                     skip
                     refine Kd.N_lit_step (Kd.slice 5 (Kd.int .u8)) _ 24 ?hg (N' := 38) ?hd (xs := ([l0] : List (List Int))) (inner := [.slice A0 l0.length c0]) (ok := (ok4_4 P0_ w v125 v129 (.slice Ao38 y132.length co38))) (okp := (ok4_4 P0_ w v125 v129 (.slice Ao38 y132.length co38))) ?hr ?hp (fun _ hk => hk) ((show ∀ k_, w37.heap.size ≤ k_ → (ok4_4 P0_ w v125 v129 (.slice Ao38 y132.length co38)) k_ from fun k_ hk => ⟨(.inr (Nat.le_trans (below_size (Ext.nB HB.out)) hk)), Kd.fresh' (Kd.N_lt (Ext.nN HO126.out)) k_ hk, Kd.fresh' (Kd.N_lt (Ext.nN HO130.out)) k_ hk, Kd.fresh' (Kd.N_lt (Ext.nN HO134.out)) k_ hk⟩) _ (Nat.le_refl _)) (Below.refl _ _) (Nat.le_refl _) (by simp) ?_; (case hd => rfl); (case hg => rfl); (case hr => first | (go_simp; done) | (go_simp; rfl)); (case hp => exact (Reps.one (show Kd.FK (Kd.slice 5 (Kd.int .u8)) _ _ l0 [.slice A0 l0.length c0] from (Kd.FK_slice_mk (Kd.V_reads' (Kd.V_mono (e := 0) (base := 0) (ok' := (ok4_4 P0_ w v125 v129 (.slice Ao38 y132.length co38))) (HO_0.out) (fun k_ hk => ⟨hk.1, ⟨hk.2.1, ⟨hk.2.2.1, hk.2.2.2⟩⟩⟩))).2.1 (Kd.V_F (e := 0) (base := 0) (Kd.V_mono (e := 0) (base := 0) (ok' := (ok4_4 P0_ w v125 v129 (.slice Ao38 y132.length co38))) (HO_0.out) (fun k_ hk => ⟨hk.1, ⟨hk.2.1, ⟨hk.2.2.1, hk.2.2.2⟩⟩⟩))))) (Reps.none _ _)))
                     intro v137 w38 ho39 hb hg_ hnew_
                     clear hg_ hnew_
                     (first | rw [← Ny136.out] at ho39 | (simp only [Int.reduceToNat] at ho39; rw [← Ny136.out] at ho39))
                     have n0_ := Ext.a (Kd.V_elder' (Ext.nV HO_0.out) (Kd.N_base ho39) hb)
                     have n1_ := Ext.a (Kd.V_elder' (Ext.nV HO118.out) (Kd.N_base ho39) hb)
                     have n2_ := Ext.a (Kd.V_elder' (Ext.nV HO123.out) (Kd.N_base ho39) hb)
                     have n3_ := Ext.a (Kd.N_elder' (Ext.nN HO126.out) (Kd.N_base ho39) hb)
                     have n4_ := Ext.a (Kd.N_elder' (Ext.nN HO130.out) (Kd.N_base ho39) hb)
                     have n5_ := Ext.a (Kd.N_elder' (Ext.nN HO134.out) (Kd.N_base ho39) hb)
                     have n6_ := Ext.a (Kd.N_lower ho39 (below_size (Ext.nB HB.out)))
                     have n7_ := Ext.a (below_step (Ext.nB HB.out) hb)
                     clear HO_0
                     clear HO118
                     clear HO123
                     clear HO126
                     clear HO130
                     clear HO134
                     clear HB
                     have HO_0 := n0_
                     have HO118 := n1_
                     have HO123 := n2_
                     have HO126 := n3_
                     have HO130 := n4_
                     have HO134 := n5_
                     have HO138 := n6_
                     have HB := n7_
                     clear n0_ n1_ n2_ n3_ n4_ n5_ n6_ n7_
                     clear hb ho39
                     refine hK.out _ _ trivial (fun hHeld => ?_)
                     clear hK K
                     refine norm_ (a' := ?_) ?_ ?_
                     rotate_left
                     · show Act.put _ (some 38) _ = _; simp only [Act.put, Ext.sb, Ext.sz, Ext.ss, i64_w, i32_w]; rfl
                     exact norm_ (by first | (simp only [putAll, Act.put, Ext.sb, Ext.sz, Ext.ss]; done) | (simp only [putAll, Act.put, Ext.sb, Ext.sz, Ext.ss]; rfl)) (hJ6_7_9_10_14_17 (v125, v129, (.slice Ao38 y132.length co38), v137) _ ⟨(Ext.nV (Kd.V_mono HO118.out (fun _ hk => ⟨hk.1.1, ⟨hk.1.2.1, ⟨hk.1.2.2.1, ⟨hk.1.2.2.2, hk.2⟩⟩⟩⟩))), (Ext.nV (Kd.V_mono HO123.out (fun _ hk => ⟨hk.1.1, ⟨hk.1.2.1, ⟨hk.1.2.2.1, ⟨hk.1.2.2.2, hk.2⟩⟩⟩⟩))), (Ext.nN (Kd.N_mono HO126.out (fun _ hk => ⟨hk.1.1, ⟨hk.1.2.1, ⟨hk.1.2.2, hk.2⟩⟩⟩))), (Ext.nN (Kd.N_mono HO130.out (fun _ hk => ⟨hk.1.1, ⟨hk.1.2.1, ⟨hk.1.2.2, hk.2⟩⟩⟩))), (Ext.nN (Kd.N_mono HO134.out (fun _ hk => ⟨hk.1.1, ⟨hk.1.2.1, ⟨hk.1.2.2, hk.2⟩⟩⟩))), (Ext.nN HO138.out), (Ext.nV (Kd.V_mono HO_0.out (fun _ hk => ⟨hk.1.1, ⟨hk.1.2.1, ⟨hk.1.2.2.1, ⟨hk.1.2.2.2, hk.2⟩⟩⟩⟩))), (Ext.nB HB.out)⟩)
                  ·
                   skip
                   rintro ⟨v125, v129, v133, v137⟩ w39 ⟨h0_, h1_, h2_, h3_, h4_, h5_, h6_, h7_⟩
                   have n0_ : Aside0 (Kd.V (Kd.int .u8) 5 w39 w.heap.size (ok4_3 P0_ w v125 v129 v133 v137) (.slice A0 y114.length c0) y114) := ⟨h0_⟩
                   have n1_ : Aside0 (Kd.V (Kd.int .u8) 5 w39 w.heap.size (ok4_3 P0_ w v125 v129 v133 v137) (.slice A28 y119.length c28) y119) := ⟨h1_⟩
                   have n2_ : Aside0 (Kd.N (Kd.slice 5 (Kd.int .u8)) 24 w39 w.heap.size (ok4_4 P0_ w v129 v133 v137) v125 y124) := ⟨h2_⟩
                   have n3_ : Aside0 (Kd.N (Kd.slice 5 (Kd.int .u8)) 24 w39 w.heap.size (ok4_4 P0_ w v125 v133 v137) v129 y128) := ⟨h3_⟩
                   have n4_ : Aside0 (Kd.N (Kd.slice 5 (Kd.int .u8)) 24 w39 w.heap.size (ok4_4 P0_ w v125 v129 v137) v133 y132) := ⟨h4_⟩
                   have n5_ : Aside0 (Kd.N (Kd.slice 5 (Kd.int .u8)) 24 w39 w.heap.size (ok4_4 P0_ w v125 v129 v133) v137 y136) := ⟨h5_⟩
                   have n6_ : Aside0 (Kd.V (Kd.int .u8) 5 w39 w.heap.size (ok4_3 P0_ w v125 v129 v133 v137) (.slice A0 l0.length c0) l0) := ⟨h6_⟩
                   have n7_ : Aside0 (Below w.heap.size w w39) := ⟨h7_⟩
                   clear HO_0
                   clear HB
                   clear h0_ h1_ h2_ h3_ h4_ h5_ h6_ h7_
                   have HO118 := n0_
                   have HO123 := n1_
                   have HO126 := n2_
                   have HO130 := n3_
                   have HO134 := n4_
                   have HO138 := n5_
                   have HO_0 := n6_
                   have HB := n7_
                   clear n0_ n1_ n2_ n3_ n4_ n5_ n6_ n7_
                   have hHeld := trivial
                   obtain ⟨Ao40, co40, eo40⟩ := Kd.N_slice HO134.out
                   (first | subst eo40 | (injection eo40 with f1_ f2_ f3_; have f4_ := f1_.symm; have f5_ := f3_.symm; clear f1_ f2_ f3_; subst f4_; subst f5_))
                   refine norm_ (a' := ?_) ?_ ?_
                   rotate_left
                   · simp only [putAll, Act.put, Ext.sb, Ext.sz, Ext.ss]; rfl
                   refine one_ (i := 15) (N := some 36) zb4_2 rfl rfl (one_of HT_.out (by kernel_rfl)) (by decide) (fun K hK => ?_)
                   refine goes_ Try.func9 (by kernel_rfl) rfl #[.slice Ao40 y132.length co40] (by rfl) rfl rfl (by (try simp only [List.map_toArray, List.map_cons, List.map_nil]); first | done | rfl | (simp only [List.length_drop, List.length_take]; rfl)) ?_
                   with_reducible refine (sum_Sum.calls kj7 _ _ y132 t135 _ ?side1 ?side2 A21.out).mono ?_
                   (case side1 => exact Ext.nC (Kd.N_reads' HO134.out).2.2)
                   (case side2 => exact (Kd.N_reads' HO134.out).2.1)
                   rintro e w' ⟨rfl, ⟨nd, rfl⟩⟩
                   refine ⟨_, rfl, ?_⟩
                   refine hK.out _ _ trivial (fun hHeld => ?_)
                   clear hK K
                   refine norm_ (a' := ?_) ?_ ?_
                   rotate_left
                   · show Act.put _ (some 36) _ = _; simp only [Act.put, Ext.sb, Ext.sz, Ext.ss, i64_w, i32_w]; rfl
                   exact norm_ (by first | (simp only [putAll, Act.put, Ext.sb, Ext.sz, Ext.ss]; done) | (simp only [putAll, Act.put, Ext.sb, Ext.sz, Ext.ss]; rfl)) (hJ6_7_9_10_14_15_17 (v125, v129, .slice Ao40 y132.length co40, v137) _ ⟨(Ext.nV HO118.out), (Ext.nV HO123.out), (Ext.nN HO126.out), (Ext.nN HO130.out), (Ext.nN HO134.out), (Ext.nN HO138.out), (Ext.nV HO_0.out), (Ext.nB HB.out)⟩)
                 ·
                  skip
                  rintro ⟨v125, v129, v133⟩ w38 ⟨h0_, h1_, h2_, h3_, h4_, h5_, h6_⟩
                  have n0_ : Aside0 (Kd.V (Kd.int .u8) 5 w38 w.heap.size (ok4_4 P0_ w v125 v129 v133) (.slice A0 y114.length c0) y114) := ⟨h0_⟩
                  have n1_ : Aside0 (Kd.V (Kd.int .u8) 5 w38 w.heap.size (ok4_4 P0_ w v125 v129 v133) (.slice A28 y119.length c28) y119) := ⟨h1_⟩
                  have n2_ : Aside0 (Kd.N (Kd.slice 5 (Kd.int .u8)) 24 w38 w.heap.size (ok4_5 P0_ w v129 v133) v125 y124) := ⟨h2_⟩
                  have n3_ : Aside0 (Kd.N (Kd.slice 5 (Kd.int .u8)) 24 w38 w.heap.size (ok4_5 P0_ w v125 v133) v129 y128) := ⟨h3_⟩
                  have n4_ : Aside0 (Kd.N (Kd.slice 5 (Kd.int .u8)) 24 w38 w.heap.size (ok4_5 P0_ w v125 v129) v133 y132) := ⟨h4_⟩
                  have n5_ : Aside0 (Kd.V (Kd.int .u8) 5 w38 w.heap.size (ok4_4 P0_ w v125 v129 v133) (.slice A0 l0.length c0) l0) := ⟨h5_⟩
                  have n6_ : Aside0 (Below w.heap.size w w38) := ⟨h6_⟩
                  clear HO_0
                  clear HB
                  clear h0_ h1_ h2_ h3_ h4_ h5_ h6_
                  have HO118 := n0_
                  have HO123 := n1_
                  have HO126 := n2_
                  have HO130 := n3_
                  have HO134 := n4_
                  have HO_0 := n5_
                  have HB := n6_
                  clear n0_ n1_ n2_ n3_ n4_ n5_ n6_
                  have hHeld := trivial
                  refine norm_ (a' := ?_) ?_ ?_
                  rotate_left
                  · simp only [putAll, Act.put, Ext.sb, Ext.sz, Ext.ss]; rfl
                  refine one_ (i := 17) (N := some 38) zb4_2 rfl rfl (one_of HT_.out (by kernel_rfl)) (by decide) (fun K hK => ?_)
                  refine Kd.N_lit_step (Kd.slice 5 (Kd.int .u8)) _ 24 ?hg (N' := 38) ?hd (xs := ([l0] : List (List Int))) (inner := [.slice A0 l0.length c0]) (ok := (ok4_4 P0_ w v125 v129 v133)) (okp := (ok4_4 P0_ w v125 v129 v133)) ?hr ?hp (fun _ hk => hk) ((show ∀ k_, w38.heap.size ≤ k_ → (ok4_4 P0_ w v125 v129 v133) k_ from fun k_ hk => ⟨(.inr (Nat.le_trans (below_size (Ext.nB HB.out)) hk)), Kd.fresh' (Kd.N_lt (Ext.nN HO126.out)) k_ hk, Kd.fresh' (Kd.N_lt (Ext.nN HO130.out)) k_ hk, Kd.fresh' (Kd.N_lt (Ext.nN HO134.out)) k_ hk⟩) _ (Nat.le_refl _)) (Below.refl _ _) (Nat.le_refl _) (by simp) ?_; (case hd => rfl); (case hg => rfl); (case hr => first | (go_simp; done) | (go_simp; rfl)); (case hp => exact (Reps.one (show Kd.FK (Kd.slice 5 (Kd.int .u8)) _ _ l0 [.slice A0 l0.length c0] from (Kd.FK_slice_mk (Kd.V_reads' (Kd.V_mono (e := 0) (base := 0) (ok' := (ok4_4 P0_ w v125 v129 v133)) (HO_0.out) (fun k_ hk => ⟨hk.1, ⟨hk.2.1, ⟨hk.2.2.1, hk.2.2.2⟩⟩⟩))).2.1 (Kd.V_F (e := 0) (base := 0) (Kd.V_mono (e := 0) (base := 0) (ok' := (ok4_4 P0_ w v125 v129 v133)) (HO_0.out) (fun k_ hk => ⟨hk.1, ⟨hk.2.1, ⟨hk.2.2.1, hk.2.2.2⟩⟩⟩))))) (Reps.none _ _)))
                  intro v137 w39 ho40 hb hg_ hnew_
                  clear hg_ hnew_
                  (first | rw [← Ny136.out] at ho40 | (simp only [Int.reduceToNat] at ho40; rw [← Ny136.out] at ho40))
                  have n0_ := Ext.a (Kd.V_elder' (Ext.nV HO_0.out) (Kd.N_base ho40) hb)
                  have n1_ := Ext.a (Kd.V_elder' (Ext.nV HO118.out) (Kd.N_base ho40) hb)
                  have n2_ := Ext.a (Kd.V_elder' (Ext.nV HO123.out) (Kd.N_base ho40) hb)
                  have n3_ := Ext.a (Kd.N_elder' (Ext.nN HO126.out) (Kd.N_base ho40) hb)
                  have n4_ := Ext.a (Kd.N_elder' (Ext.nN HO130.out) (Kd.N_base ho40) hb)
                  have n5_ := Ext.a (Kd.N_elder' (Ext.nN HO134.out) (Kd.N_base ho40) hb)
                  have n6_ := Ext.a (Kd.N_lower ho40 (below_size (Ext.nB HB.out)))
                  have n7_ := Ext.a (below_step (Ext.nB HB.out) hb)
                  clear HO_0
                  clear HO118
                  clear HO123
                  clear HO126
                  clear HO130
                  clear HO134
                  clear HB
                  have HO_0 := n0_
                  have HO118 := n1_
                  have HO123 := n2_
                  have HO126 := n3_
                  have HO130 := n4_
                  have HO134 := n5_
                  have HO138 := n6_
                  have HB := n7_
                  clear n0_ n1_ n2_ n3_ n4_ n5_ n6_ n7_
                  clear hb ho40
                  refine hK.out _ _ trivial (fun hHeld => ?_)
                  clear hK K
                  refine norm_ (a' := ?_) ?_ ?_
                  rotate_left
                  · show Act.put _ (some 38) _ = _; simp only [Act.put, Ext.sb, Ext.sz, Ext.ss, i64_w, i32_w]; rfl
                  exact norm_ (by first | (simp only [putAll, Act.put, Ext.sb, Ext.sz, Ext.ss]; done) | (simp only [putAll, Act.put, Ext.sb, Ext.sz, Ext.ss]; rfl)) (hJ6_7_9_10_14_15_17 (v125, v129, v133, v137) _ ⟨(Ext.nV (Kd.V_mono HO118.out (fun _ hk => ⟨hk.1.1, ⟨hk.1.2.1, ⟨hk.1.2.2.1, ⟨hk.1.2.2.2, hk.2⟩⟩⟩⟩))), (Ext.nV (Kd.V_mono HO123.out (fun _ hk => ⟨hk.1.1, ⟨hk.1.2.1, ⟨hk.1.2.2.1, ⟨hk.1.2.2.2, hk.2⟩⟩⟩⟩))), (Ext.nN (Kd.N_mono HO126.out (fun _ hk => ⟨hk.1.1, ⟨hk.1.2.1, ⟨hk.1.2.2, hk.2⟩⟩⟩))), (Ext.nN (Kd.N_mono HO130.out (fun _ hk => ⟨hk.1.1, ⟨hk.1.2.1, ⟨hk.1.2.2, hk.2⟩⟩⟩))), (Ext.nN (Kd.N_mono HO134.out (fun _ hk => ⟨hk.1.1, ⟨hk.1.2.1, ⟨hk.1.2.2, hk.2⟩⟩⟩))), (Ext.nN HO138.out), (Ext.nV (Kd.V_mono HO_0.out (fun _ hk => ⟨hk.1.1, ⟨hk.1.2.1, ⟨hk.1.2.2.1, ⟨hk.1.2.2.2, hk.2⟩⟩⟩⟩))), (Ext.nB HB.out)⟩)
                ·
                 skip
                 rintro ⟨v125, v129, v133, v137⟩ w40 ⟨h0_, h1_, h2_, h3_, h4_, h5_, h6_, h7_⟩
                 have n0_ : Aside0 (Kd.V (Kd.int .u8) 5 w40 w.heap.size (ok4_3 P0_ w v125 v129 v133 v137) (.slice A0 y114.length c0) y114) := ⟨h0_⟩
                 have n1_ : Aside0 (Kd.V (Kd.int .u8) 5 w40 w.heap.size (ok4_3 P0_ w v125 v129 v133 v137) (.slice A28 y119.length c28) y119) := ⟨h1_⟩
                 have n2_ : Aside0 (Kd.N (Kd.slice 5 (Kd.int .u8)) 24 w40 w.heap.size (ok4_4 P0_ w v129 v133 v137) v125 y124) := ⟨h2_⟩
                 have n3_ : Aside0 (Kd.N (Kd.slice 5 (Kd.int .u8)) 24 w40 w.heap.size (ok4_4 P0_ w v125 v133 v137) v129 y128) := ⟨h3_⟩
                 have n4_ : Aside0 (Kd.N (Kd.slice 5 (Kd.int .u8)) 24 w40 w.heap.size (ok4_4 P0_ w v125 v129 v137) v133 y132) := ⟨h4_⟩
                 have n5_ : Aside0 (Kd.N (Kd.slice 5 (Kd.int .u8)) 24 w40 w.heap.size (ok4_4 P0_ w v125 v129 v133) v137 y136) := ⟨h5_⟩
                 have n6_ : Aside0 (Kd.V (Kd.int .u8) 5 w40 w.heap.size (ok4_3 P0_ w v125 v129 v133 v137) (.slice A0 l0.length c0) l0) := ⟨h6_⟩
                 have n7_ : Aside0 (Below w.heap.size w w40) := ⟨h7_⟩
                 clear HO_0
                 clear HB
                 clear h0_ h1_ h2_ h3_ h4_ h5_ h6_ h7_
                 have HO118 := n0_
                 have HO123 := n1_
                 have HO126 := n2_
                 have HO130 := n3_
                 have HO134 := n4_
                 have HO138 := n5_
                 have HO_0 := n6_
                 have HB := n7_
                 clear n0_ n1_ n2_ n3_ n4_ n5_ n6_ n7_
                 have hHeld := trivial
                 obtain ⟨Ao41, co41, eo41⟩ := Kd.N_slice HO138.out
                 (first | subst eo41 | (injection eo41 with f1_ f2_ f3_; have f4_ := f1_.symm; have f5_ := f3_.symm; clear f1_ f2_ f3_; subst f4_; subst f5_))
                 refine norm_ (a' := ?_) ?_ ?_
                 rotate_left
                 · simp only [putAll, Act.put, Ext.sb, Ext.sz, Ext.ss]; rfl
                 refine one_ (i := 18) (N := some 39) zb4_25 rfl rfl (one_of HT_.out (by kernel_rfl)) (by decide) (fun K hK => ?_)
                 refine goes_ Try.func9 (by kernel_rfl) rfl #[.slice Ao41 y136.length co41] (by rfl) rfl rfl (by (try simp only [List.map_toArray, List.map_cons, List.map_nil]); first | done | rfl | (simp only [List.length_drop, List.length_take]; rfl)) ?_
                 with_reducible refine (sum_Sum.calls kj7 _ _ y136 t139 _ ?side1 ?side2 A22.out).mono ?_
                 (case side1 => exact Ext.nC (Kd.N_reads' HO138.out).2.2)
                 (case side2 => exact (Kd.N_reads' HO138.out).2.1)
                 rintro e w' ⟨rfl, ⟨nd, rfl⟩⟩
                 refine ⟨_, rfl, ?_⟩
                 refine hK.out _ _ trivial (fun hHeld => ?_)
                 clear hK K
                 refine norm_ (a' := ?_) ?_ ?_
                 rotate_left
                 · show Act.put _ (some 39) _ = _; simp only [Act.put, Ext.sb, Ext.sz, Ext.ss, i64_w, i32_w]; rfl
                 refine pure_ (i := 19) (N := some 40) (v := ?_) (a' := ?_) zb4_26 rfl rfl (any_of HT_.out (by kernel_rfl)) (fun _ _ _ h => h) (Or.inl ⟨by rfl, ?_⟩) ?_ ?_
                 rotate_left
                 · intro w'; go_simp; with_reducible rfl
                 rotate_left
                 · simp only [Act.put, Ext.sb, Ext.sz, Ext.ss, i64_w, i32_w]; rfl
                 refine pure_ (i := 20) (N := some 41) (v := ?_) (a' := ?_) zb4_27 rfl rfl (any_of HT_.out (by kernel_rfl)) (fun _ _ _ h => h) (Or.inl ⟨by rfl, ?_⟩) ?_ ?_
                 rotate_left
                 · intro w'; go_simp; with_reducible rfl
                 rotate_left
                 · simp only [Act.put, Ext.sb, Ext.sz, Ext.ss, i64_w, i32_w]; rfl
                 refine pure_ (i := 21) (N := some 42) (v := ?_) (a' := ?_) zb4_28 rfl rfl (any_of HT_.out (by kernel_rfl)) (fun _ _ _ h => h) (Or.inl ⟨by rfl, ?_⟩) ?_ ?_
                 rotate_left
                 · intro w'; go_simp; with_reducible rfl
                 rotate_left
                 · simp only [Act.put, Ext.sb, Ext.sz, Ext.ss, i64_w, i32_w]; rfl
                 refine pure_ (i := 22) (N := some 43) (v := ?_) (a' := ?_) zb4_29 rfl rfl (any_of HT_.out (by kernel_rfl)) (fun _ _ _ h => h) (Or.inl ⟨by rfl, ?_⟩) ?_ ?_
                 rotate_left
                 · intro w'; go_simp; with_reducible rfl
                 rotate_left
                 · simp only [Act.put, Ext.sb, Ext.sz, Ext.ss, i64_w, i32_w]; rfl
                 refine pure_ (i := 23) (N := some 44) (v := ?_) (a' := ?_) zb4_30 rfl rfl (any_of HT_.out (by kernel_rfl)) (fun _ _ _ h => h) (Or.inl ⟨by rfl, ?_⟩) ?_ ?_
                 rotate_left
                 · intro w'; go_simp; with_reducible rfl
                 rotate_left
                 · simp only [Act.put, Ext.sb, Ext.sz, Ext.ss, i64_w, i32_w]; rfl
                 refine pure_ (i := 24) (N := some 45) (v := ?_) (a' := ?_) zb4_31 rfl rfl (any_of HT_.out (by kernel_rfl)) (fun _ _ _ h => h) (Or.inl ⟨by rfl, ?_⟩) ?_ ?_
                 rotate_left
                 · intro w'; go_simp; with_reducible rfl
                 rotate_left
                 · simp only [Act.put, Ext.sb, Ext.sz, Ext.ss, i64_w, i32_w]; rfl
                 refine pure_ (i := 25) (N := some 46) (v := ?_) (a' := ?_) zb4_32 rfl rfl (any_of HT_.out (by kernel_rfl)) (fun _ _ _ h => h) (Or.inl ⟨by rfl, ?_⟩) ?_ ?_
                 rotate_left
                 · intro w'; go_simp; with_reducible rfl
                 rotate_left
                 · simp only [Act.put, Ext.sb, Ext.sz, Ext.ss, i64_w, i32_w]; rfl
                 refine pure_ (i := 26) (N := some 47) (v := ?_) (a' := ?_) zb4_33 rfl rfl (any_of HT_.out (by kernel_rfl)) (fun _ _ _ h => h) (Or.inl ⟨by rfl, ?_⟩) ?_ ?_
                 rotate_left
                 · intro w'; go_simp; with_reducible rfl
                 rotate_left
                 · simp only [Act.put, Ext.sb, Ext.sz, Ext.ss, i64_w, i32_w]; rfl
                 refine pure_ (i := 27) (N := some 48) (v := ?_) (a' := ?_) zb4_34 rfl rfl (any_of HT_.out (by kernel_rfl)) (fun _ _ _ h => h) (Or.inl ⟨by rfl, ?_⟩) ?_ ?_
                 rotate_left
                 · intro w'; go_simp; with_reducible rfl
                 rotate_left
                 · simp only [Act.put, Ext.sb, Ext.sz, Ext.ss, i64_w, i32_w]; rfl
                 refine pure_ (i := 30) (N := some 51) (v := ?_) (a' := ?_) zb4_40 rfl rfl (any_of HT_.out (by kernel_rfl)) (fun _ _ _ h => h) (Or.inl ⟨by rfl, ?_⟩) ?_ ?_
                 rotate_left
                 · intro w'; go_simp; with_reducible rfl
                 rotate_left
                 · simp only [Act.put, Ext.sb, Ext.sz, Ext.ss, i64_w, i32_w]; rfl
                 exact norm_ (by first | (simp only [putAll, Act.put, Ext.sb, Ext.sz, Ext.ss]; done) | (simp only [putAll, Act.put, Ext.sb, Ext.sz, Ext.ss]; rfl)) (hJ6_7_9_10_14_15_17_18 (v125, v129, v133, .slice Ao41 y136.length co41) _ ⟨(Ext.nV HO118.out), (Ext.nV HO123.out), (Ext.nN HO126.out), (Ext.nN HO130.out), (Ext.nN HO134.out), (Ext.nN HO138.out), (Ext.nV HO_0.out), (Ext.nB HB.out)⟩)
               ·
                skip
                rintro ⟨v125, v129, v133, v137⟩ w41 ⟨h0_, h1_, h2_, h3_, h4_, h5_, h6_, h7_⟩
                have n0_ : Aside0 (Kd.V (Kd.int .u8) 5 w41 w.heap.size (ok4_3 P0_ w v125 v129 v133 v137) (.slice A0 y114.length c0) y114) := ⟨h0_⟩
                have n1_ : Aside0 (Kd.V (Kd.int .u8) 5 w41 w.heap.size (ok4_3 P0_ w v125 v129 v133 v137) (.slice A28 y119.length c28) y119) := ⟨h1_⟩
                have n2_ : Aside0 (Kd.N (Kd.slice 5 (Kd.int .u8)) 24 w41 w.heap.size (ok4_4 P0_ w v129 v133 v137) v125 y124) := ⟨h2_⟩
                have n3_ : Aside0 (Kd.N (Kd.slice 5 (Kd.int .u8)) 24 w41 w.heap.size (ok4_4 P0_ w v125 v133 v137) v129 y128) := ⟨h3_⟩
                have n4_ : Aside0 (Kd.N (Kd.slice 5 (Kd.int .u8)) 24 w41 w.heap.size (ok4_4 P0_ w v125 v129 v137) v133 y132) := ⟨h4_⟩
                have n5_ : Aside0 (Kd.N (Kd.slice 5 (Kd.int .u8)) 24 w41 w.heap.size (ok4_4 P0_ w v125 v129 v133) v137 y136) := ⟨h5_⟩
                have n6_ : Aside0 (Kd.V (Kd.int .u8) 5 w41 w.heap.size (ok4_3 P0_ w v125 v129 v133 v137) (.slice A0 l0.length c0) l0) := ⟨h6_⟩
                have n7_ : Aside0 (Below w.heap.size w w41) := ⟨h7_⟩
                clear HO_0
                clear HB
                clear h0_ h1_ h2_ h3_ h4_ h5_ h6_ h7_
                have HO118 := n0_
                have HO123 := n1_
                have HO126 := n2_
                have HO130 := n3_
                have HO134 := n4_
                have HO138 := n5_
                have HO_0 := n6_
                have HB := n7_
                clear n0_ n1_ n2_ n3_ n4_ n5_ n6_ n7_
                have hHeld := trivial
                refine norm_ (a' := ?_) ?_ ?_
                rotate_left
                · simp only [putAll, Act.put, Ext.sb, Ext.sz, Ext.ss]; rfl
                refine two_ (i := 28) (j := 31) (Ni := some 49) (Nj := some 52) zb4_42 zb4_43 rfl rfl rfl rfl (two_of HT_.out (by kernel_rfl)) (by decide) (by decide) (fun K hK => ?_) (fun K hK => ?_)
                ·
                 skip
                 refine Kd.N_lit_step (Kd.slice 5 (Kd.int .u8)) _ 24 ?hg (N' := 49) ?hd (xs := ([[], y114, [], y119] : List (List Int))) (inner := [.slice none 0 0, .slice A0 y114.length c0, .slice none 0 0, .slice A28 y119.length c28]) (ok := (ok4_3 P0_ w v125 v129 v133 v137)) (okp := (ok4_3 P0_ w v125 v129 v133 v137)) ?hr ?hp (fun _ hk => hk) ((show ∀ k_, w41.heap.size ≤ k_ → (ok4_3 P0_ w v125 v129 v133 v137) k_ from fun k_ hk => ⟨(.inr (Nat.le_trans (below_size (Ext.nB HB.out)) hk)), Kd.fresh' (Kd.N_lt (Ext.nN HO126.out)) k_ hk, Kd.fresh' (Kd.N_lt (Ext.nN HO130.out)) k_ hk, Kd.fresh' (Kd.N_lt (Ext.nN HO134.out)) k_ hk, Kd.fresh' (Kd.N_lt (Ext.nN HO138.out)) k_ hk⟩) _ (Nat.le_refl _)) (Below.refl _ _) (Nat.le_refl _) (by simp) ?_; (case hd => rfl); (case hg => rfl); (case hr => first | (go_simp; done) | (go_simp; rfl)); (case hp => exact (Reps.one (show Kd.FK (Kd.slice 5 (Kd.int .u8)) _ _ [] [.slice none 0 0] from (Kd.FK_slice_mk (Nat.le_refl _) (Kd.F_nil _ _ _))) (Reps.one (show Kd.FK (Kd.slice 5 (Kd.int .u8)) _ _ y114 [.slice A0 y114.length c0] from (Kd.FK_slice_mk (Kd.V_reads' (Kd.V_mono (e := 0) (base := 0) (ok' := (ok4_3 P0_ w v125 v129 v133 v137)) (HO118.out) (fun k_ hk => ⟨hk.1, ⟨hk.2.1, ⟨hk.2.2.1, ⟨hk.2.2.2.1, hk.2.2.2.2⟩⟩⟩⟩))).2.1 (Kd.V_F (e := 0) (base := 0) (Kd.V_mono (e := 0) (base := 0) (ok' := (ok4_3 P0_ w v125 v129 v133 v137)) (HO118.out) (fun k_ hk => ⟨hk.1, ⟨hk.2.1, ⟨hk.2.2.1, ⟨hk.2.2.2.1, hk.2.2.2.2⟩⟩⟩⟩))))) (Reps.one (show Kd.FK (Kd.slice 5 (Kd.int .u8)) _ _ [] [.slice none 0 0] from (Kd.FK_slice_mk (Nat.le_refl _) (Kd.F_nil _ _ _))) (Reps.one (show Kd.FK (Kd.slice 5 (Kd.int .u8)) _ _ y119 [.slice A28 y119.length c28] from (Kd.FK_slice_mk (Kd.V_reads' (Kd.V_mono (e := 0) (base := 0) (ok' := (ok4_3 P0_ w v125 v129 v133 v137)) (HO123.out) (fun k_ hk => ⟨hk.1, ⟨hk.2.1, ⟨hk.2.2.1, ⟨hk.2.2.2.1, hk.2.2.2.2⟩⟩⟩⟩))).2.1 (Kd.V_F (e := 0) (base := 0) (Kd.V_mono (e := 0) (base := 0) (ok' := (ok4_3 P0_ w v125 v129 v133 v137)) (HO123.out) (fun k_ hk => ⟨hk.1, ⟨hk.2.1, ⟨hk.2.2.1, ⟨hk.2.2.2.1, hk.2.2.2.2⟩⟩⟩⟩))))) (Reps.none _ _))))))
                 intro v151 w42 ho43 hb hg_ hnew_
                 clear hg_ hnew_
                 (first | rw [← Ny150.out] at ho43 | (simp only [Int.reduceToNat] at ho43; rw [← Ny150.out] at ho43))
                 have n0_ := Ext.a (Kd.V_elder' (Ext.nV HO_0.out) (Kd.N_base ho43) hb)
                 have n1_ := Ext.a (Kd.V_elder' (Ext.nV HO118.out) (Kd.N_base ho43) hb)
                 have n2_ := Ext.a (Kd.V_elder' (Ext.nV HO123.out) (Kd.N_base ho43) hb)
                 have n3_ := Ext.a (Kd.N_elder' (Ext.nN HO126.out) (Kd.N_base ho43) hb)
                 have n4_ := Ext.a (Kd.N_elder' (Ext.nN HO130.out) (Kd.N_base ho43) hb)
                 have n5_ := Ext.a (Kd.N_elder' (Ext.nN HO134.out) (Kd.N_base ho43) hb)
                 have n6_ := Ext.a (Kd.N_elder' (Ext.nN HO138.out) (Kd.N_base ho43) hb)
                 have n7_ := Ext.a (Kd.N_lower ho43 (below_size (Ext.nB HB.out)))
                 have n8_ := Ext.a (below_step (Ext.nB HB.out) hb)
                 clear HO_0
                 clear HO118
                 clear HO123
                 clear HO126
                 clear HO130
                 clear HO134
                 clear HO138
                 clear HB
                 have HO_0 := n0_
                 have HO118 := n1_
                 have HO123 := n2_
                 have HO126 := n3_
                 have HO130 := n4_
                 have HO134 := n5_
                 have HO138 := n6_
                 have HO152 := n7_
                 have HB := n8_
                 clear n0_ n1_ n2_ n3_ n4_ n5_ n6_ n7_ n8_
                 clear hb ho43
                 refine hK.out _ _ trivial (fun hHeld => ?_)
                 clear hK K
                 refine norm_ (a' := ?_) ?_ ?_
                 rotate_left
                 · show Act.put _ (some 49) _ = _; simp only [Act.put, Ext.sb, Ext.sz, Ext.ss, i64_w, i32_w]; rfl
                 exact norm_ (by first | (simp only [putAll, Act.put, Ext.sb, Ext.sz, Ext.ss]; done) | (simp only [putAll, Act.put, Ext.sb, Ext.sz, Ext.ss]; rfl)) (hJ6_7_9_10_14_15_17_18_28 (v125, v129, v133, v137, v151) _ ⟨(Ext.nV (Kd.V_mono HO118.out (fun _ hk => ⟨hk.1.1, ⟨hk.1.2.1, ⟨hk.1.2.2.1, ⟨hk.1.2.2.2.1, ⟨hk.1.2.2.2.2, hk.2⟩⟩⟩⟩⟩))), (Ext.nV (Kd.V_mono HO123.out (fun _ hk => ⟨hk.1.1, ⟨hk.1.2.1, ⟨hk.1.2.2.1, ⟨hk.1.2.2.2.1, ⟨hk.1.2.2.2.2, hk.2⟩⟩⟩⟩⟩))), (Ext.nN (Kd.N_mono HO126.out (fun _ hk => ⟨hk.1.1, ⟨hk.1.2.1, ⟨hk.1.2.2.1, ⟨hk.1.2.2.2, hk.2⟩⟩⟩⟩))), (Ext.nN (Kd.N_mono HO130.out (fun _ hk => ⟨hk.1.1, ⟨hk.1.2.1, ⟨hk.1.2.2.1, ⟨hk.1.2.2.2, hk.2⟩⟩⟩⟩))), (Ext.nN (Kd.N_mono HO134.out (fun _ hk => ⟨hk.1.1, ⟨hk.1.2.1, ⟨hk.1.2.2.1, ⟨hk.1.2.2.2, hk.2⟩⟩⟩⟩))), (Ext.nN (Kd.N_mono HO138.out (fun _ hk => ⟨hk.1.1, ⟨hk.1.2.1, ⟨hk.1.2.2.1, ⟨hk.1.2.2.2, hk.2⟩⟩⟩⟩))), (Ext.nN HO152.out), (Ext.nV (Kd.V_mono HO_0.out (fun _ hk => ⟨hk.1.1, ⟨hk.1.2.1, ⟨hk.1.2.2.1, ⟨hk.1.2.2.2.1, ⟨hk.1.2.2.2.2, hk.2⟩⟩⟩⟩⟩))), (Ext.nB HB.out)⟩)
                ·
                 skip
                 refine Kd.N_lit_step (Kd.slice 5 (Kd.int .u8)) _ 24 ?hg (N' := 52) ?hd (xs := ([l0] : List (List Int))) (inner := [.slice A0 l0.length c0]) (ok := (ok4_3 P0_ w v125 v129 v133 v137)) (okp := (ok4_3 P0_ w v125 v129 v133 v137)) ?hr ?hp (fun _ hk => hk) ((show ∀ k_, w41.heap.size ≤ k_ → (ok4_3 P0_ w v125 v129 v133 v137) k_ from fun k_ hk => ⟨(.inr (Nat.le_trans (below_size (Ext.nB HB.out)) hk)), Kd.fresh' (Kd.N_lt (Ext.nN HO126.out)) k_ hk, Kd.fresh' (Kd.N_lt (Ext.nN HO130.out)) k_ hk, Kd.fresh' (Kd.N_lt (Ext.nN HO134.out)) k_ hk, Kd.fresh' (Kd.N_lt (Ext.nN HO138.out)) k_ hk⟩) _ (Nat.le_refl _)) (Below.refl _ _) (Nat.le_refl _) (by simp) ?_; (case hd => rfl); (case hg => rfl); (case hr => first | (go_simp; done) | (go_simp; rfl)); (case hp => exact (Reps.one (show Kd.FK (Kd.slice 5 (Kd.int .u8)) _ _ l0 [.slice A0 l0.length c0] from (Kd.FK_slice_mk (Kd.V_reads' (Kd.V_mono (e := 0) (base := 0) (ok' := (ok4_3 P0_ w v125 v129 v133 v137)) (HO_0.out) (fun k_ hk => ⟨hk.1, ⟨hk.2.1, ⟨hk.2.2.1, ⟨hk.2.2.2.1, hk.2.2.2.2⟩⟩⟩⟩))).2.1 (Kd.V_F (e := 0) (base := 0) (Kd.V_mono (e := 0) (base := 0) (ok' := (ok4_3 P0_ w v125 v129 v133 v137)) (HO_0.out) (fun k_ hk => ⟨hk.1, ⟨hk.2.1, ⟨hk.2.2.1, ⟨hk.2.2.2.1, hk.2.2.2.2⟩⟩⟩⟩))))) (Reps.none _ _)))
                 intro v155 w42 ho43 hb hg_ hnew_
                 clear hg_ hnew_
                 (first | rw [← Ny154.out] at ho43 | (simp only [Int.reduceToNat] at ho43; rw [← Ny154.out] at ho43))
                 have n0_ := Ext.a (Kd.V_elder' (Ext.nV HO_0.out) (Kd.N_base ho43) hb)
                 have n1_ := Ext.a (Kd.V_elder' (Ext.nV HO118.out) (Kd.N_base ho43) hb)
                 have n2_ := Ext.a (Kd.V_elder' (Ext.nV HO123.out) (Kd.N_base ho43) hb)
                 have n3_ := Ext.a (Kd.N_elder' (Ext.nN HO126.out) (Kd.N_base ho43) hb)
                 have n4_ := Ext.a (Kd.N_elder' (Ext.nN HO130.out) (Kd.N_base ho43) hb)
                 have n5_ := Ext.a (Kd.N_elder' (Ext.nN HO134.out) (Kd.N_base ho43) hb)
                 have n6_ := Ext.a (Kd.N_elder' (Ext.nN HO138.out) (Kd.N_base ho43) hb)
                 have n7_ := Ext.a (Kd.N_lower ho43 (below_size (Ext.nB HB.out)))
                 have n8_ := Ext.a (below_step (Ext.nB HB.out) hb)
                 clear HO_0
                 clear HO118
                 clear HO123
                 clear HO126
                 clear HO130
                 clear HO134
                 clear HO138
                 clear HB
                 have HO_0 := n0_
                 have HO118 := n1_
                 have HO123 := n2_
                 have HO126 := n3_
                 have HO130 := n4_
                 have HO134 := n5_
                 have HO138 := n6_
                 have HO156 := n7_
                 have HB := n8_
                 clear n0_ n1_ n2_ n3_ n4_ n5_ n6_ n7_ n8_
                 clear hb ho43
                 refine hK.out _ _ trivial (fun hHeld => ?_)
                 clear hK K
                 refine norm_ (a' := ?_) ?_ ?_
                 rotate_left
                 · show Act.put _ (some 52) _ = _; simp only [Act.put, Ext.sb, Ext.sz, Ext.ss, i64_w, i32_w]; rfl
                 exact norm_ (by first | (simp only [putAll, Act.put, Ext.sb, Ext.sz, Ext.ss]; done) | (simp only [putAll, Act.put, Ext.sb, Ext.sz, Ext.ss]; rfl)) (hJ6_7_9_10_14_15_17_18_31 (v125, v129, v133, v137, v155) _ ⟨(Ext.nV (Kd.V_mono HO118.out (fun _ hk => ⟨hk.1.1, ⟨hk.1.2.1, ⟨hk.1.2.2.1, ⟨hk.1.2.2.2.1, ⟨hk.1.2.2.2.2, hk.2⟩⟩⟩⟩⟩))), (Ext.nV (Kd.V_mono HO123.out (fun _ hk => ⟨hk.1.1, ⟨hk.1.2.1, ⟨hk.1.2.2.1, ⟨hk.1.2.2.2.1, ⟨hk.1.2.2.2.2, hk.2⟩⟩⟩⟩⟩))), (Ext.nN (Kd.N_mono HO126.out (fun _ hk => ⟨hk.1.1, ⟨hk.1.2.1, ⟨hk.1.2.2.1, ⟨hk.1.2.2.2, hk.2⟩⟩⟩⟩))), (Ext.nN (Kd.N_mono HO130.out (fun _ hk => ⟨hk.1.1, ⟨hk.1.2.1, ⟨hk.1.2.2.1, ⟨hk.1.2.2.2, hk.2⟩⟩⟩⟩))), (Ext.nN (Kd.N_mono HO134.out (fun _ hk => ⟨hk.1.1, ⟨hk.1.2.1, ⟨hk.1.2.2.1, ⟨hk.1.2.2.2, hk.2⟩⟩⟩⟩))), (Ext.nN (Kd.N_mono HO138.out (fun _ hk => ⟨hk.1.1, ⟨hk.1.2.1, ⟨hk.1.2.2.1, ⟨hk.1.2.2.2, hk.2⟩⟩⟩⟩))), (Ext.nN HO156.out), (Ext.nV (Kd.V_mono HO_0.out (fun _ hk => ⟨hk.1.1, ⟨hk.1.2.1, ⟨hk.1.2.2.1, ⟨hk.1.2.2.2.1, ⟨hk.1.2.2.2.2, hk.2⟩⟩⟩⟩⟩))), (Ext.nB HB.out)⟩)
              ·
               skip
               rintro ⟨v125, v129, v133, v137, v155⟩ w43 ⟨h0_, h1_, h2_, h3_, h4_, h5_, h6_, h7_, h8_⟩
               have n0_ : Aside0 (Kd.V (Kd.int .u8) 5 w43 w.heap.size (ok4_2 P0_ w v125 v129 v133 v137 v155) (.slice A0 y114.length c0) y114) := ⟨h0_⟩
               have n1_ : Aside0 (Kd.V (Kd.int .u8) 5 w43 w.heap.size (ok4_2 P0_ w v125 v129 v133 v137 v155) (.slice A28 y119.length c28) y119) := ⟨h1_⟩
               have n2_ : Aside0 (Kd.N (Kd.slice 5 (Kd.int .u8)) 24 w43 w.heap.size (ok4_3 P0_ w v129 v133 v137 v155) v125 y124) := ⟨h2_⟩
               have n3_ : Aside0 (Kd.N (Kd.slice 5 (Kd.int .u8)) 24 w43 w.heap.size (ok4_3 P0_ w v125 v133 v137 v155) v129 y128) := ⟨h3_⟩
               have n4_ : Aside0 (Kd.N (Kd.slice 5 (Kd.int .u8)) 24 w43 w.heap.size (ok4_3 P0_ w v125 v129 v137 v155) v133 y132) := ⟨h4_⟩
               have n5_ : Aside0 (Kd.N (Kd.slice 5 (Kd.int .u8)) 24 w43 w.heap.size (ok4_3 P0_ w v125 v129 v133 v155) v137 y136) := ⟨h5_⟩
               have n6_ : Aside0 (Kd.N (Kd.slice 5 (Kd.int .u8)) 24 w43 w.heap.size (ok4_3 P0_ w v125 v129 v133 v137) v155 y154) := ⟨h6_⟩
               have n7_ : Aside0 (Kd.V (Kd.int .u8) 5 w43 w.heap.size (ok4_2 P0_ w v125 v129 v133 v137 v155) (.slice A0 l0.length c0) l0) := ⟨h7_⟩
               have n8_ : Aside0 (Below w.heap.size w w43) := ⟨h8_⟩
               clear HO_0
               clear HB
               clear h0_ h1_ h2_ h3_ h4_ h5_ h6_ h7_ h8_
               have HO118 := n0_
               have HO123 := n1_
               have HO126 := n2_
               have HO130 := n3_
               have HO134 := n4_
               have HO138 := n5_
               have HO156 := n6_
               have HO_0 := n7_
               have HB := n8_
               clear n0_ n1_ n2_ n3_ n4_ n5_ n6_ n7_ n8_
               have hHeld := trivial
               refine norm_ (a' := ?_) ?_ ?_
               rotate_left
               · simp only [putAll, Act.put, Ext.sb, Ext.sz, Ext.ss]; rfl
               refine one_ (i := 28) (N := some 49) zb4_35 rfl rfl (one_of HT_.out (by kernel_rfl)) (by decide) (fun K hK => ?_)
               refine Kd.N_lit_step (Kd.slice 5 (Kd.int .u8)) _ 24 ?hg (N' := 49) ?hd (xs := ([[], y114, [], y119] : List (List Int))) (inner := [.slice none 0 0, .slice A0 y114.length c0, .slice none 0 0, .slice A28 y119.length c28]) (ok := (ok4_2 P0_ w v125 v129 v133 v137 v155)) (okp := (ok4_2 P0_ w v125 v129 v133 v137 v155)) ?hr ?hp (fun _ hk => hk) ((show ∀ k_, w43.heap.size ≤ k_ → (ok4_2 P0_ w v125 v129 v133 v137 v155) k_ from fun k_ hk => ⟨(.inr (Nat.le_trans (below_size (Ext.nB HB.out)) hk)), Kd.fresh' (Kd.N_lt (Ext.nN HO126.out)) k_ hk, Kd.fresh' (Kd.N_lt (Ext.nN HO130.out)) k_ hk, Kd.fresh' (Kd.N_lt (Ext.nN HO134.out)) k_ hk, Kd.fresh' (Kd.N_lt (Ext.nN HO138.out)) k_ hk, Kd.fresh' (Kd.N_lt (Ext.nN HO156.out)) k_ hk⟩) _ (Nat.le_refl _)) (Below.refl _ _) (Nat.le_refl _) (by simp) ?_; (case hd => rfl); (case hg => rfl); (case hr => first | (go_simp; done) | (go_simp; rfl)); (case hp => exact (Reps.one (show Kd.FK (Kd.slice 5 (Kd.int .u8)) _ _ [] [.slice none 0 0] from (Kd.FK_slice_mk (Nat.le_refl _) (Kd.F_nil _ _ _))) (Reps.one (show Kd.FK (Kd.slice 5 (Kd.int .u8)) _ _ y114 [.slice A0 y114.length c0] from (Kd.FK_slice_mk (Kd.V_reads' (Kd.V_mono (e := 0) (base := 0) (ok' := (ok4_2 P0_ w v125 v129 v133 v137 v155)) (HO118.out) (fun k_ hk => ⟨hk.1, ⟨hk.2.1, ⟨hk.2.2.1, ⟨hk.2.2.2.1, ⟨hk.2.2.2.2.1, hk.2.2.2.2.2⟩⟩⟩⟩⟩))).2.1 (Kd.V_F (e := 0) (base := 0) (Kd.V_mono (e := 0) (base := 0) (ok' := (ok4_2 P0_ w v125 v129 v133 v137 v155)) (HO118.out) (fun k_ hk => ⟨hk.1, ⟨hk.2.1, ⟨hk.2.2.1, ⟨hk.2.2.2.1, ⟨hk.2.2.2.2.1, hk.2.2.2.2.2⟩⟩⟩⟩⟩))))) (Reps.one (show Kd.FK (Kd.slice 5 (Kd.int .u8)) _ _ [] [.slice none 0 0] from (Kd.FK_slice_mk (Nat.le_refl _) (Kd.F_nil _ _ _))) (Reps.one (show Kd.FK (Kd.slice 5 (Kd.int .u8)) _ _ y119 [.slice A28 y119.length c28] from (Kd.FK_slice_mk (Kd.V_reads' (Kd.V_mono (e := 0) (base := 0) (ok' := (ok4_2 P0_ w v125 v129 v133 v137 v155)) (HO123.out) (fun k_ hk => ⟨hk.1, ⟨hk.2.1, ⟨hk.2.2.1, ⟨hk.2.2.2.1, ⟨hk.2.2.2.2.1, hk.2.2.2.2.2⟩⟩⟩⟩⟩))).2.1 (Kd.V_F (e := 0) (base := 0) (Kd.V_mono (e := 0) (base := 0) (ok' := (ok4_2 P0_ w v125 v129 v133 v137 v155)) (HO123.out) (fun k_ hk => ⟨hk.1, ⟨hk.2.1, ⟨hk.2.2.1, ⟨hk.2.2.2.1, ⟨hk.2.2.2.2.1, hk.2.2.2.2.2⟩⟩⟩⟩⟩))))) (Reps.none _ _))))))
               intro v151 w44 ho45 hb hg_ hnew_
               clear hg_ hnew_
               (first | rw [← Ny150.out] at ho45 | (simp only [Int.reduceToNat] at ho45; rw [← Ny150.out] at ho45))
               have n0_ := Ext.a (Kd.V_elder' (Ext.nV HO_0.out) (Kd.N_base ho45) hb)
               have n1_ := Ext.a (Kd.V_elder' (Ext.nV HO118.out) (Kd.N_base ho45) hb)
               have n2_ := Ext.a (Kd.V_elder' (Ext.nV HO123.out) (Kd.N_base ho45) hb)
               have n3_ := Ext.a (Kd.N_elder' (Ext.nN HO126.out) (Kd.N_base ho45) hb)
               have n4_ := Ext.a (Kd.N_elder' (Ext.nN HO130.out) (Kd.N_base ho45) hb)
               have n5_ := Ext.a (Kd.N_elder' (Ext.nN HO134.out) (Kd.N_base ho45) hb)
               have n6_ := Ext.a (Kd.N_elder' (Ext.nN HO138.out) (Kd.N_base ho45) hb)
               have n7_ := Ext.a (Kd.N_elder' (Ext.nN HO156.out) (Kd.N_base ho45) hb)
               have n8_ := Ext.a (Kd.N_lower ho45 (below_size (Ext.nB HB.out)))
               have n9_ := Ext.a (below_step (Ext.nB HB.out) hb)
               clear HO_0
               clear HO118
               clear HO123
               clear HO126
               clear HO130
               clear HO134
               clear HO138
               clear HO156
               clear HB
               have HO_0 := n0_
               have HO118 := n1_
               have HO123 := n2_
               have HO126 := n3_
               have HO130 := n4_
               have HO134 := n5_
               have HO138 := n6_
               have HO156 := n7_
               have HO152 := n8_
               have HB := n9_
               clear n0_ n1_ n2_ n3_ n4_ n5_ n6_ n7_ n8_ n9_
               clear hb ho45
               refine hK.out _ _ trivial (fun hHeld => ?_)
               clear hK K
               refine norm_ (a' := ?_) ?_ ?_
               rotate_left
               · show Act.put _ (some 49) _ = _; simp only [Act.put, Ext.sb, Ext.sz, Ext.ss, i64_w, i32_w]; rfl
               exact norm_ (by first | (simp only [putAll, Act.put, Ext.sb, Ext.sz, Ext.ss]; done) | (simp only [putAll, Act.put, Ext.sb, Ext.sz, Ext.ss]; rfl)) (hJ6_7_9_10_14_15_17_18_28_31 (v125, v129, v133, v137, v151, v155) _ ⟨(Ext.nV (Kd.V_mono HO118.out (fun _ hk => ⟨hk.1.1, ⟨hk.1.2.1, ⟨hk.1.2.2.1, ⟨hk.1.2.2.2.1, ⟨hk.1.2.2.2.2.1, ⟨hk.2, hk.1.2.2.2.2.2⟩⟩⟩⟩⟩⟩))), (Ext.nV (Kd.V_mono HO123.out (fun _ hk => ⟨hk.1.1, ⟨hk.1.2.1, ⟨hk.1.2.2.1, ⟨hk.1.2.2.2.1, ⟨hk.1.2.2.2.2.1, ⟨hk.2, hk.1.2.2.2.2.2⟩⟩⟩⟩⟩⟩))), (Ext.nN (Kd.N_mono HO126.out (fun _ hk => ⟨hk.1.1, ⟨hk.1.2.1, ⟨hk.1.2.2.1, ⟨hk.1.2.2.2.1, ⟨hk.2, hk.1.2.2.2.2⟩⟩⟩⟩⟩))), (Ext.nN (Kd.N_mono HO130.out (fun _ hk => ⟨hk.1.1, ⟨hk.1.2.1, ⟨hk.1.2.2.1, ⟨hk.1.2.2.2.1, ⟨hk.2, hk.1.2.2.2.2⟩⟩⟩⟩⟩))), (Ext.nN (Kd.N_mono HO134.out (fun _ hk => ⟨hk.1.1, ⟨hk.1.2.1, ⟨hk.1.2.2.1, ⟨hk.1.2.2.2.1, ⟨hk.2, hk.1.2.2.2.2⟩⟩⟩⟩⟩))), (Ext.nN (Kd.N_mono HO138.out (fun _ hk => ⟨hk.1.1, ⟨hk.1.2.1, ⟨hk.1.2.2.1, ⟨hk.1.2.2.2.1, ⟨hk.2, hk.1.2.2.2.2⟩⟩⟩⟩⟩))), (Ext.nN HO152.out), (Ext.nN (Kd.N_mono HO156.out (fun _ hk => ⟨hk.1.1, ⟨hk.1.2.1, ⟨hk.1.2.2.1, ⟨hk.1.2.2.2.1, ⟨hk.1.2.2.2.2, hk.2⟩⟩⟩⟩⟩))), (Ext.nV (Kd.V_mono HO_0.out (fun _ hk => ⟨hk.1.1, ⟨hk.1.2.1, ⟨hk.1.2.2.1, ⟨hk.1.2.2.2.1, ⟨hk.1.2.2.2.2.1, ⟨hk.2, hk.1.2.2.2.2.2⟩⟩⟩⟩⟩⟩))), (Ext.nB HB.out)⟩)
             ·
              skip
              rintro ⟨v125, v129, v133, v137, v151⟩ w43 ⟨h0_, h1_, h2_, h3_, h4_, h5_, h6_, h7_, h8_⟩
              have n0_ : Aside0 (Kd.V (Kd.int .u8) 5 w43 w.heap.size (ok4_2 P0_ w v125 v129 v133 v137 v151) (.slice A0 y114.length c0) y114) := ⟨h0_⟩
              have n1_ : Aside0 (Kd.V (Kd.int .u8) 5 w43 w.heap.size (ok4_2 P0_ w v125 v129 v133 v137 v151) (.slice A28 y119.length c28) y119) := ⟨h1_⟩
              have n2_ : Aside0 (Kd.N (Kd.slice 5 (Kd.int .u8)) 24 w43 w.heap.size (ok4_3 P0_ w v129 v133 v137 v151) v125 y124) := ⟨h2_⟩
              have n3_ : Aside0 (Kd.N (Kd.slice 5 (Kd.int .u8)) 24 w43 w.heap.size (ok4_3 P0_ w v125 v133 v137 v151) v129 y128) := ⟨h3_⟩
              have n4_ : Aside0 (Kd.N (Kd.slice 5 (Kd.int .u8)) 24 w43 w.heap.size (ok4_3 P0_ w v125 v129 v137 v151) v133 y132) := ⟨h4_⟩
              have n5_ : Aside0 (Kd.N (Kd.slice 5 (Kd.int .u8)) 24 w43 w.heap.size (ok4_3 P0_ w v125 v129 v133 v151) v137 y136) := ⟨h5_⟩
              have n6_ : Aside0 (Kd.N (Kd.slice 5 (Kd.int .u8)) 24 w43 w.heap.size (ok4_3 P0_ w v125 v129 v133 v137) v151 y150) := ⟨h6_⟩
              have n7_ : Aside0 (Kd.V (Kd.int .u8) 5 w43 w.heap.size (ok4_2 P0_ w v125 v129 v133 v137 v151) (.slice A0 l0.length c0) l0) := ⟨h7_⟩
              have n8_ : Aside0 (Below w.heap.size w w43) := ⟨h8_⟩
              clear HO_0
              clear HB
              clear h0_ h1_ h2_ h3_ h4_ h5_ h6_ h7_ h8_
              have HO118 := n0_
              have HO123 := n1_
              have HO126 := n2_
              have HO130 := n3_
              have HO134 := n4_
              have HO138 := n5_
              have HO152 := n6_
              have HO_0 := n7_
              have HB := n8_
              clear n0_ n1_ n2_ n3_ n4_ n5_ n6_ n7_ n8_
              have hHeld := trivial
              obtain ⟨Ao44, co44, eo44⟩ := Kd.N_slice HO152.out
              (first | subst eo44 | (injection eo44 with f1_ f2_ f3_; have f4_ := f1_.symm; have f5_ := f3_.symm; clear f1_ f2_ f3_; subst f4_; subst f5_))
              refine norm_ (a' := ?_) ?_ ?_
              rotate_left
              · simp only [putAll, Act.put, Ext.sb, Ext.sz, Ext.ss]; rfl
              refine two_ (i := 29) (j := 31) (Ni := some 50) (Nj := some 52) zb4_12 zb4_35 rfl rfl rfl rfl (two_of HT_.out (by kernel_rfl)) (by decide) (by decide) (fun K hK => ?_) (fun K hK => ?_)
              ·
               skip
               refine goes_ Try.func9 (by kernel_rfl) rfl #[.slice Ao44 y150.length co44] (by rfl) rfl rfl (by (try simp only [List.map_toArray, List.map_cons, List.map_nil]); first | done | rfl | (simp only [List.length_drop, List.length_take]; rfl)) ?_
               with_reducible refine (sum_Sum.calls kj7 _ _ y150 t153 _ ?side1 ?side2 A24.out).mono ?_
               (case side1 => exact Ext.nC (Kd.N_reads' HO152.out).2.2)
               (case side2 => exact (Kd.N_reads' HO152.out).2.1)
               rintro e w' ⟨rfl, ⟨nd, rfl⟩⟩
               refine ⟨_, rfl, ?_⟩
               refine hK.out _ _ trivial (fun hHeld => ?_)
               clear hK K
               refine norm_ (a' := ?_) ?_ ?_
               rotate_left
               · show Act.put _ (some 50) _ = _; simp only [Act.put, Ext.sb, Ext.sz, Ext.ss, i64_w, i32_w]; rfl
               exact norm_ (by first | (simp only [putAll, Act.put, Ext.sb, Ext.sz, Ext.ss]; done) | (simp only [putAll, Act.put, Ext.sb, Ext.sz, Ext.ss]; rfl)) (hJ6_7_9_10_14_15_17_18_28_29 (v125, v129, v133, v137, .slice Ao44 y150.length co44) _ ⟨(Ext.nV HO118.out), (Ext.nV HO123.out), (Ext.nN HO126.out), (Ext.nN HO130.out), (Ext.nN HO134.out), (Ext.nN HO138.out), (Ext.nN HO152.out), (Ext.nV HO_0.out), (Ext.nB HB.out)⟩)
              ·
               skip
               refine Kd.N_lit_step (Kd.slice 5 (Kd.int .u8)) _ 24 ?hg (N' := 52) ?hd (xs := ([l0] : List (List Int))) (inner := [.slice A0 l0.length c0]) (ok := (ok4_2 P0_ w v125 v129 v133 v137 (.slice Ao44 y150.length co44))) (okp := (ok4_2 P0_ w v125 v129 v133 v137 (.slice Ao44 y150.length co44))) ?hr ?hp (fun _ hk => hk) ((show ∀ k_, w43.heap.size ≤ k_ → (ok4_2 P0_ w v125 v129 v133 v137 (.slice Ao44 y150.length co44)) k_ from fun k_ hk => ⟨(.inr (Nat.le_trans (below_size (Ext.nB HB.out)) hk)), Kd.fresh' (Kd.N_lt (Ext.nN HO126.out)) k_ hk, Kd.fresh' (Kd.N_lt (Ext.nN HO130.out)) k_ hk, Kd.fresh' (Kd.N_lt (Ext.nN HO134.out)) k_ hk, Kd.fresh' (Kd.N_lt (Ext.nN HO138.out)) k_ hk, Kd.fresh' (Kd.N_lt (Ext.nN HO152.out)) k_ hk⟩) _ (Nat.le_refl _)) (Below.refl _ _) (Nat.le_refl _) (by simp) ?_; (case hd => rfl); (case hg => rfl); (case hr => first | (go_simp; done) | (go_simp; rfl)); (case hp => exact (Reps.one (show Kd.FK (Kd.slice 5 (Kd.int .u8)) _ _ l0 [.slice A0 l0.length c0] from (Kd.FK_slice_mk (Kd.V_reads' (Kd.V_mono (e := 0) (base := 0) (ok' := (ok4_2 P0_ w v125 v129 v133 v137 (.slice Ao44 y150.length co44))) (HO_0.out) (fun k_ hk => ⟨hk.1, ⟨hk.2.1, ⟨hk.2.2.1, ⟨hk.2.2.2.1, ⟨hk.2.2.2.2.1, hk.2.2.2.2.2⟩⟩⟩⟩⟩))).2.1 (Kd.V_F (e := 0) (base := 0) (Kd.V_mono (e := 0) (base := 0) (ok' := (ok4_2 P0_ w v125 v129 v133 v137 (.slice Ao44 y150.length co44))) (HO_0.out) (fun k_ hk => ⟨hk.1, ⟨hk.2.1, ⟨hk.2.2.1, ⟨hk.2.2.2.1, ⟨hk.2.2.2.2.1, hk.2.2.2.2.2⟩⟩⟩⟩⟩))))) (Reps.none _ _)))
               intro v155 w44 ho45 hb hg_ hnew_
               clear hg_ hnew_
               (first | rw [← Ny154.out] at ho45 | (simp only [Int.reduceToNat] at ho45; rw [← Ny154.out] at ho45))
               have n0_ := Ext.a (Kd.V_elder' (Ext.nV HO_0.out) (Kd.N_base ho45) hb)
               have n1_ := Ext.a (Kd.V_elder' (Ext.nV HO118.out) (Kd.N_base ho45) hb)
               have n2_ := Ext.a (Kd.V_elder' (Ext.nV HO123.out) (Kd.N_base ho45) hb)
               have n3_ := Ext.a (Kd.N_elder' (Ext.nN HO126.out) (Kd.N_base ho45) hb)
               have n4_ := Ext.a (Kd.N_elder' (Ext.nN HO130.out) (Kd.N_base ho45) hb)
               have n5_ := Ext.a (Kd.N_elder' (Ext.nN HO134.out) (Kd.N_base ho45) hb)
               have n6_ := Ext.a (Kd.N_elder' (Ext.nN HO138.out) (Kd.N_base ho45) hb)
               have n7_ := Ext.a (Kd.N_elder' (Ext.nN HO152.out) (Kd.N_base ho45) hb)
               have n8_ := Ext.a (Kd.N_lower ho45 (below_size (Ext.nB HB.out)))
               have n9_ := Ext.a (below_step (Ext.nB HB.out) hb)
               clear HO_0
               clear HO118
               clear HO123
               clear HO126
               clear HO130
               clear HO134
               clear HO138
               clear HO152
               clear HB
               have HO_0 := n0_
               have HO118 := n1_
               have HO123 := n2_
               have HO126 := n3_
               have HO130 := n4_
               have HO134 := n5_
               have HO138 := n6_
               have HO152 := n7_
               have HO156 := n8_
               have HB := n9_
               clear n0_ n1_ n2_ n3_ n4_ n5_ n6_ n7_ n8_ n9_
               clear hb ho45
               refine hK.out _ _ trivial (fun hHeld => ?_)
               clear hK K
               refine norm_ (a' := ?_) ?_ ?_
               rotate_left
               · show Act.put _ (some 52) _ = _; simp only [Act.put, Ext.sb, Ext.sz, Ext.ss, i64_w, i32_w]; rfl
               exact norm_ (by first | (simp only [putAll, Act.put, Ext.sb, Ext.sz, Ext.ss]; done) | (simp only [putAll, Act.put, Ext.sb, Ext.sz, Ext.ss]; rfl)) (hJ6_7_9_10_14_15_17_18_28_31 (v125, v129, v133, v137, (.slice Ao44 y150.length co44), v155) _ ⟨(Ext.nV (Kd.V_mono HO118.out (fun _ hk => ⟨hk.1.1, ⟨hk.1.2.1, ⟨hk.1.2.2.1, ⟨hk.1.2.2.2.1, ⟨hk.1.2.2.2.2.1, ⟨hk.1.2.2.2.2.2, hk.2⟩⟩⟩⟩⟩⟩))), (Ext.nV (Kd.V_mono HO123.out (fun _ hk => ⟨hk.1.1, ⟨hk.1.2.1, ⟨hk.1.2.2.1, ⟨hk.1.2.2.2.1, ⟨hk.1.2.2.2.2.1, ⟨hk.1.2.2.2.2.2, hk.2⟩⟩⟩⟩⟩⟩))), (Ext.nN (Kd.N_mono HO126.out (fun _ hk => ⟨hk.1.1, ⟨hk.1.2.1, ⟨hk.1.2.2.1, ⟨hk.1.2.2.2.1, ⟨hk.1.2.2.2.2, hk.2⟩⟩⟩⟩⟩))), (Ext.nN (Kd.N_mono HO130.out (fun _ hk => ⟨hk.1.1, ⟨hk.1.2.1, ⟨hk.1.2.2.1, ⟨hk.1.2.2.2.1, ⟨hk.1.2.2.2.2, hk.2⟩⟩⟩⟩⟩))), (Ext.nN (Kd.N_mono HO134.out (fun _ hk => ⟨hk.1.1, ⟨hk.1.2.1, ⟨hk.1.2.2.1, ⟨hk.1.2.2.2.1, ⟨hk.1.2.2.2.2, hk.2⟩⟩⟩⟩⟩))), (Ext.nN (Kd.N_mono HO138.out (fun _ hk => ⟨hk.1.1, ⟨hk.1.2.1, ⟨hk.1.2.2.1, ⟨hk.1.2.2.2.1, ⟨hk.1.2.2.2.2, hk.2⟩⟩⟩⟩⟩))), (Ext.nN (Kd.N_mono HO152.out (fun _ hk => ⟨hk.1.1, ⟨hk.1.2.1, ⟨hk.1.2.2.1, ⟨hk.1.2.2.2.1, ⟨hk.1.2.2.2.2, hk.2⟩⟩⟩⟩⟩))), (Ext.nN HO156.out), (Ext.nV (Kd.V_mono HO_0.out (fun _ hk => ⟨hk.1.1, ⟨hk.1.2.1, ⟨hk.1.2.2.1, ⟨hk.1.2.2.2.1, ⟨hk.1.2.2.2.2.1, ⟨hk.1.2.2.2.2.2, hk.2⟩⟩⟩⟩⟩⟩))), (Ext.nB HB.out)⟩)
            ·
             skip
             rintro ⟨v125, v129, v133, v137, v151, v155⟩ w45 ⟨h0_, h1_, h2_, h3_, h4_, h5_, h6_, h7_, h8_, h9_⟩
             have n0_ : Aside0 (Kd.V (Kd.int .u8) 5 w45 w.heap.size (ok4_1 P0_ w v125 v129 v133 v137 v151 v155) (.slice A0 y114.length c0) y114) := ⟨h0_⟩
             have n1_ : Aside0 (Kd.V (Kd.int .u8) 5 w45 w.heap.size (ok4_1 P0_ w v125 v129 v133 v137 v151 v155) (.slice A28 y119.length c28) y119) := ⟨h1_⟩
             have n2_ : Aside0 (Kd.N (Kd.slice 5 (Kd.int .u8)) 24 w45 w.heap.size (ok4_2 P0_ w v129 v133 v137 v151 v155) v125 y124) := ⟨h2_⟩
             have n3_ : Aside0 (Kd.N (Kd.slice 5 (Kd.int .u8)) 24 w45 w.heap.size (ok4_2 P0_ w v125 v133 v137 v151 v155) v129 y128) := ⟨h3_⟩
             have n4_ : Aside0 (Kd.N (Kd.slice 5 (Kd.int .u8)) 24 w45 w.heap.size (ok4_2 P0_ w v125 v129 v137 v151 v155) v133 y132) := ⟨h4_⟩
             have n5_ : Aside0 (Kd.N (Kd.slice 5 (Kd.int .u8)) 24 w45 w.heap.size (ok4_2 P0_ w v125 v129 v133 v151 v155) v137 y136) := ⟨h5_⟩
             have n6_ : Aside0 (Kd.N (Kd.slice 5 (Kd.int .u8)) 24 w45 w.heap.size (ok4_2 P0_ w v125 v129 v133 v137 v155) v151 y150) := ⟨h6_⟩
             have n7_ : Aside0 (Kd.N (Kd.slice 5 (Kd.int .u8)) 24 w45 w.heap.size (ok4_2 P0_ w v125 v129 v133 v137 v151) v155 y154) := ⟨h7_⟩
             have n8_ : Aside0 (Kd.V (Kd.int .u8) 5 w45 w.heap.size (ok4_1 P0_ w v125 v129 v133 v137 v151 v155) (.slice A0 l0.length c0) l0) := ⟨h8_⟩
             have n9_ : Aside0 (Below w.heap.size w w45) := ⟨h9_⟩
             clear HO_0
             clear HB
             clear h0_ h1_ h2_ h3_ h4_ h5_ h6_ h7_ h8_ h9_
             have HO118 := n0_
             have HO123 := n1_
             have HO126 := n2_
             have HO130 := n3_
             have HO134 := n4_
             have HO138 := n5_
             have HO152 := n6_
             have HO156 := n7_
             have HO_0 := n8_
             have HB := n9_
             clear n0_ n1_ n2_ n3_ n4_ n5_ n6_ n7_ n8_ n9_
             have hHeld := trivial
             obtain ⟨Ao46, co46, eo46⟩ := Kd.N_slice HO152.out
             (first | subst eo46 | (injection eo46 with f1_ f2_ f3_; have f4_ := f1_.symm; have f5_ := f3_.symm; clear f1_ f2_ f3_; subst f4_; subst f5_))
             refine norm_ (a' := ?_) ?_ ?_
             rotate_left
             · simp only [putAll, Act.put, Ext.sb, Ext.sz, Ext.ss]; rfl
             refine one_ (i := 29) (N := some 50) zb4_8 rfl rfl (one_of HT_.out (by kernel_rfl)) (by decide) (fun K hK => ?_)
             refine goes_ Try.func9 (by kernel_rfl) rfl #[.slice Ao46 y150.length co46] (by rfl) rfl rfl (by (try simp only [List.map_toArray, List.map_cons, List.map_nil]); first | done | rfl | (simp only [List.length_drop, List.length_take]; rfl)) ?_
             with_reducible refine (sum_Sum.calls kj7 _ _ y150 t153 _ ?side1 ?side2 A24.out).mono ?_
             (case side1 => exact Ext.nC (Kd.N_reads' HO152.out).2.2)
             (case side2 => exact (Kd.N_reads' HO152.out).2.1)
             rintro e w' ⟨rfl, ⟨nd, rfl⟩⟩
             refine ⟨_, rfl, ?_⟩
             refine hK.out _ _ trivial (fun hHeld => ?_)
             clear hK K
             refine norm_ (a' := ?_) ?_ ?_
             rotate_left
             · show Act.put _ (some 50) _ = _; simp only [Act.put, Ext.sb, Ext.sz, Ext.ss, i64_w, i32_w]; rfl
             exact norm_ (by first | (simp only [putAll, Act.put, Ext.sb, Ext.sz, Ext.ss]; done) | (simp only [putAll, Act.put, Ext.sb, Ext.sz, Ext.ss]; rfl)) (hJ6_7_9_10_14_15_17_18_28_29_31 (v125, v129, v133, v137, .slice Ao46 y150.length co46, v155) _ ⟨(Ext.nV HO118.out), (Ext.nV HO123.out), (Ext.nN HO126.out), (Ext.nN HO130.out), (Ext.nN HO134.out), (Ext.nN HO138.out), (Ext.nN HO152.out), (Ext.nN HO156.out), (Ext.nV HO_0.out), (Ext.nB HB.out)⟩)
           ·
            skip
            rintro ⟨v125, v129, v133, v137, v151⟩ w44 ⟨h0_, h1_, h2_, h3_, h4_, h5_, h6_, h7_, h8_⟩
            have n0_ : Aside0 (Kd.V (Kd.int .u8) 5 w44 w.heap.size (ok4_2 P0_ w v125 v129 v133 v137 v151) (.slice A0 y114.length c0) y114) := ⟨h0_⟩
            have n1_ : Aside0 (Kd.V (Kd.int .u8) 5 w44 w.heap.size (ok4_2 P0_ w v125 v129 v133 v137 v151) (.slice A28 y119.length c28) y119) := ⟨h1_⟩
            have n2_ : Aside0 (Kd.N (Kd.slice 5 (Kd.int .u8)) 24 w44 w.heap.size (ok4_3 P0_ w v129 v133 v137 v151) v125 y124) := ⟨h2_⟩
            have n3_ : Aside0 (Kd.N (Kd.slice 5 (Kd.int .u8)) 24 w44 w.heap.size (ok4_3 P0_ w v125 v133 v137 v151) v129 y128) := ⟨h3_⟩
            have n4_ : Aside0 (Kd.N (Kd.slice 5 (Kd.int .u8)) 24 w44 w.heap.size (ok4_3 P0_ w v125 v129 v137 v151) v133 y132) := ⟨h4_⟩
            have n5_ : Aside0 (Kd.N (Kd.slice 5 (Kd.int .u8)) 24 w44 w.heap.size (ok4_3 P0_ w v125 v129 v133 v151) v137 y136) := ⟨h5_⟩
            have n6_ : Aside0 (Kd.N (Kd.slice 5 (Kd.int .u8)) 24 w44 w.heap.size (ok4_3 P0_ w v125 v129 v133 v137) v151 y150) := ⟨h6_⟩
            have n7_ : Aside0 (Kd.V (Kd.int .u8) 5 w44 w.heap.size (ok4_2 P0_ w v125 v129 v133 v137 v151) (.slice A0 l0.length c0) l0) := ⟨h7_⟩
            have n8_ : Aside0 (Below w.heap.size w w44) := ⟨h8_⟩
            clear HO_0
            clear HB
            clear h0_ h1_ h2_ h3_ h4_ h5_ h6_ h7_ h8_
            have HO118 := n0_
            have HO123 := n1_
            have HO126 := n2_
            have HO130 := n3_
            have HO134 := n4_
            have HO138 := n5_
            have HO152 := n6_
            have HO_0 := n7_
            have HB := n8_
            clear n0_ n1_ n2_ n3_ n4_ n5_ n6_ n7_ n8_
            have hHeld := trivial
            refine norm_ (a' := ?_) ?_ ?_
            rotate_left
            · simp only [putAll, Act.put, Ext.sb, Ext.sz, Ext.ss]; rfl
            refine one_ (i := 31) (N := some 52) zb4_8 rfl rfl (one_of HT_.out (by kernel_rfl)) (by decide) (fun K hK => ?_)
            refine Kd.N_lit_step (Kd.slice 5 (Kd.int .u8)) _ 24 ?hg (N' := 52) ?hd (xs := ([l0] : List (List Int))) (inner := [.slice A0 l0.length c0]) (ok := (ok4_2 P0_ w v125 v129 v133 v137 v151)) (okp := (ok4_2 P0_ w v125 v129 v133 v137 v151)) ?hr ?hp (fun _ hk => hk) ((show ∀ k_, w44.heap.size ≤ k_ → (ok4_2 P0_ w v125 v129 v133 v137 v151) k_ from fun k_ hk => ⟨(.inr (Nat.le_trans (below_size (Ext.nB HB.out)) hk)), Kd.fresh' (Kd.N_lt (Ext.nN HO126.out)) k_ hk, Kd.fresh' (Kd.N_lt (Ext.nN HO130.out)) k_ hk, Kd.fresh' (Kd.N_lt (Ext.nN HO134.out)) k_ hk, Kd.fresh' (Kd.N_lt (Ext.nN HO138.out)) k_ hk, Kd.fresh' (Kd.N_lt (Ext.nN HO152.out)) k_ hk⟩) _ (Nat.le_refl _)) (Below.refl _ _) (Nat.le_refl _) (by simp) ?_; (case hd => rfl); (case hg => rfl); (case hr => first | (go_simp; done) | (go_simp; rfl)); (case hp => exact (Reps.one (show Kd.FK (Kd.slice 5 (Kd.int .u8)) _ _ l0 [.slice A0 l0.length c0] from (Kd.FK_slice_mk (Kd.V_reads' (Kd.V_mono (e := 0) (base := 0) (ok' := (ok4_2 P0_ w v125 v129 v133 v137 v151)) (HO_0.out) (fun k_ hk => ⟨hk.1, ⟨hk.2.1, ⟨hk.2.2.1, ⟨hk.2.2.2.1, ⟨hk.2.2.2.2.1, hk.2.2.2.2.2⟩⟩⟩⟩⟩))).2.1 (Kd.V_F (e := 0) (base := 0) (Kd.V_mono (e := 0) (base := 0) (ok' := (ok4_2 P0_ w v125 v129 v133 v137 v151)) (HO_0.out) (fun k_ hk => ⟨hk.1, ⟨hk.2.1, ⟨hk.2.2.1, ⟨hk.2.2.2.1, ⟨hk.2.2.2.2.1, hk.2.2.2.2.2⟩⟩⟩⟩⟩))))) (Reps.none _ _)))
            intro v155 w45 ho46 hb hg_ hnew_
            clear hg_ hnew_
            (first | rw [← Ny154.out] at ho46 | (simp only [Int.reduceToNat] at ho46; rw [← Ny154.out] at ho46))
            have n0_ := Ext.a (Kd.V_elder' (Ext.nV HO_0.out) (Kd.N_base ho46) hb)
            have n1_ := Ext.a (Kd.V_elder' (Ext.nV HO118.out) (Kd.N_base ho46) hb)
            have n2_ := Ext.a (Kd.V_elder' (Ext.nV HO123.out) (Kd.N_base ho46) hb)
            have n3_ := Ext.a (Kd.N_elder' (Ext.nN HO126.out) (Kd.N_base ho46) hb)
            have n4_ := Ext.a (Kd.N_elder' (Ext.nN HO130.out) (Kd.N_base ho46) hb)
            have n5_ := Ext.a (Kd.N_elder' (Ext.nN HO134.out) (Kd.N_base ho46) hb)
            have n6_ := Ext.a (Kd.N_elder' (Ext.nN HO138.out) (Kd.N_base ho46) hb)
            have n7_ := Ext.a (Kd.N_elder' (Ext.nN HO152.out) (Kd.N_base ho46) hb)
            have n8_ := Ext.a (Kd.N_lower ho46 (below_size (Ext.nB HB.out)))
            have n9_ := Ext.a (below_step (Ext.nB HB.out) hb)
            clear HO_0
            clear HO118
            clear HO123
            clear HO126
            clear HO130
            clear HO134
            clear HO138
            clear HO152
            clear HB
            have HO_0 := n0_
            have HO118 := n1_
            have HO123 := n2_
            have HO126 := n3_
            have HO130 := n4_
            have HO134 := n5_
            have HO138 := n6_
            have HO152 := n7_
            have HO156 := n8_
            have HB := n9_
            clear n0_ n1_ n2_ n3_ n4_ n5_ n6_ n7_ n8_ n9_
            clear hb ho46
            refine hK.out _ _ trivial (fun hHeld => ?_)
            clear hK K
            refine norm_ (a' := ?_) ?_ ?_
            rotate_left
            · show Act.put _ (some 52) _ = _; simp only [Act.put, Ext.sb, Ext.sz, Ext.ss, i64_w, i32_w]; rfl
            exact norm_ (by first | (simp only [putAll, Act.put, Ext.sb, Ext.sz, Ext.ss]; done) | (simp only [putAll, Act.put, Ext.sb, Ext.sz, Ext.ss]; rfl)) (hJ6_7_9_10_14_15_17_18_28_29_31 (v125, v129, v133, v137, v151, v155) _ ⟨(Ext.nV (Kd.V_mono HO118.out (fun _ hk => ⟨hk.1.1, ⟨hk.1.2.1, ⟨hk.1.2.2.1, ⟨hk.1.2.2.2.1, ⟨hk.1.2.2.2.2.1, ⟨hk.1.2.2.2.2.2, hk.2⟩⟩⟩⟩⟩⟩))), (Ext.nV (Kd.V_mono HO123.out (fun _ hk => ⟨hk.1.1, ⟨hk.1.2.1, ⟨hk.1.2.2.1, ⟨hk.1.2.2.2.1, ⟨hk.1.2.2.2.2.1, ⟨hk.1.2.2.2.2.2, hk.2⟩⟩⟩⟩⟩⟩))), (Ext.nN (Kd.N_mono HO126.out (fun _ hk => ⟨hk.1.1, ⟨hk.1.2.1, ⟨hk.1.2.2.1, ⟨hk.1.2.2.2.1, ⟨hk.1.2.2.2.2, hk.2⟩⟩⟩⟩⟩))), (Ext.nN (Kd.N_mono HO130.out (fun _ hk => ⟨hk.1.1, ⟨hk.1.2.1, ⟨hk.1.2.2.1, ⟨hk.1.2.2.2.1, ⟨hk.1.2.2.2.2, hk.2⟩⟩⟩⟩⟩))), (Ext.nN (Kd.N_mono HO134.out (fun _ hk => ⟨hk.1.1, ⟨hk.1.2.1, ⟨hk.1.2.2.1, ⟨hk.1.2.2.2.1, ⟨hk.1.2.2.2.2, hk.2⟩⟩⟩⟩⟩))), (Ext.nN (Kd.N_mono HO138.out (fun _ hk => ⟨hk.1.1, ⟨hk.1.2.1, ⟨hk.1.2.2.1, ⟨hk.1.2.2.2.1, ⟨hk.1.2.2.2.2, hk.2⟩⟩⟩⟩⟩))), (Ext.nN (Kd.N_mono HO152.out (fun _ hk => ⟨hk.1.1, ⟨hk.1.2.1, ⟨hk.1.2.2.1, ⟨hk.1.2.2.2.1, ⟨hk.1.2.2.2.2, hk.2⟩⟩⟩⟩⟩))), (Ext.nN HO156.out), (Ext.nV (Kd.V_mono HO_0.out (fun _ hk => ⟨hk.1.1, ⟨hk.1.2.1, ⟨hk.1.2.2.1, ⟨hk.1.2.2.2.1, ⟨hk.1.2.2.2.2.1, ⟨hk.1.2.2.2.2.2, hk.2⟩⟩⟩⟩⟩⟩))), (Ext.nB HB.out)⟩)
          rintro ⟨v125, v129, v133, v137, v151, v155⟩ w46 ⟨h0_, h1_, h2_, h3_, h4_, h5_, h6_, h7_, h8_, h9_⟩
          have n0_ : Aside0 (Kd.V (Kd.int .u8) 5 w46 w.heap.size (ok4_1 P0_ w v125 v129 v133 v137 v151 v155) (.slice A0 y114.length c0) y114) := ⟨h0_⟩
          have n1_ : Aside0 (Kd.V (Kd.int .u8) 5 w46 w.heap.size (ok4_1 P0_ w v125 v129 v133 v137 v151 v155) (.slice A28 y119.length c28) y119) := ⟨h1_⟩
          have n2_ : Aside0 (Kd.N (Kd.slice 5 (Kd.int .u8)) 24 w46 w.heap.size (ok4_2 P0_ w v129 v133 v137 v151 v155) v125 y124) := ⟨h2_⟩
          have n3_ : Aside0 (Kd.N (Kd.slice 5 (Kd.int .u8)) 24 w46 w.heap.size (ok4_2 P0_ w v125 v133 v137 v151 v155) v129 y128) := ⟨h3_⟩
          have n4_ : Aside0 (Kd.N (Kd.slice 5 (Kd.int .u8)) 24 w46 w.heap.size (ok4_2 P0_ w v125 v129 v137 v151 v155) v133 y132) := ⟨h4_⟩
          have n5_ : Aside0 (Kd.N (Kd.slice 5 (Kd.int .u8)) 24 w46 w.heap.size (ok4_2 P0_ w v125 v129 v133 v151 v155) v137 y136) := ⟨h5_⟩
          have n6_ : Aside0 (Kd.N (Kd.slice 5 (Kd.int .u8)) 24 w46 w.heap.size (ok4_2 P0_ w v125 v129 v133 v137 v155) v151 y150) := ⟨h6_⟩
          have n7_ : Aside0 (Kd.N (Kd.slice 5 (Kd.int .u8)) 24 w46 w.heap.size (ok4_2 P0_ w v125 v129 v133 v137 v151) v155 y154) := ⟨h7_⟩
          have n8_ : Aside0 (Kd.V (Kd.int .u8) 5 w46 w.heap.size (ok4_1 P0_ w v125 v129 v133 v137 v151 v155) (.slice A0 l0.length c0) l0) := ⟨h8_⟩
          have n9_ : Aside0 (Below w.heap.size w w46) := ⟨h9_⟩
          clear HO_0
          clear HB
          clear h0_ h1_ h2_ h3_ h4_ h5_ h6_ h7_ h8_ h9_
          have HO118 := n0_
          have HO123 := n1_
          have HO126 := n2_
          have HO130 := n3_
          have HO134 := n4_
          have HO138 := n5_
          have HO152 := n6_
          have HO156 := n7_
          have HO_0 := n8_
          have HB := n9_
          clear n0_ n1_ n2_ n3_ n4_ n5_ n6_ n7_ n8_ n9_
          have hHeld := trivial
          obtain ⟨Ao47, co47, eo47⟩ := Kd.N_slice HO156.out
          (first | subst eo47 | (injection eo47 with f1_ f2_ f3_; have f4_ := f1_.symm; have f5_ := f3_.symm; clear f1_ f2_ f3_; subst f4_; subst f5_))
          refine norm_ (a' := ?_) ?_ ?_
          rotate_left
          · simp only [putAll, Act.put, Ext.sb, Ext.sz, Ext.ss]; rfl
          refine one_ (i := 32) (N := some 53) zb4_36 rfl rfl (one_of HT_.out (by kernel_rfl)) (by decide) (fun K hK => ?_)
          refine goes_ Try.func9 (by kernel_rfl) rfl #[.slice Ao47 y154.length co47] (by rfl) rfl rfl (by (try simp only [List.map_toArray, List.map_cons, List.map_nil]); first | done | rfl | (simp only [List.length_drop, List.length_take]; rfl)) ?_
          with_reducible refine (sum_Sum.calls kj7 _ _ y154 t157 _ ?side1 ?side2 A25.out).mono ?_
          (case side1 => exact Ext.nC (Kd.N_reads' HO156.out).2.2)
          (case side2 => exact (Kd.N_reads' HO156.out).2.1)
          rintro e w' ⟨rfl, ⟨nd, rfl⟩⟩
          refine ⟨_, rfl, ?_⟩
          refine hK.out _ _ trivial (fun hHeld => ?_)
          clear hK K
          refine norm_ (a' := ?_) ?_ ?_
          rotate_left
          · show Act.put _ (some 53) _ = _; simp only [Act.put, Ext.sb, Ext.sz, Ext.ss, i64_w, i32_w]; rfl
          refine pure_ (i := 33) (N := some 54) (v := ?_) (a' := ?_) zb4_37 rfl rfl (any_of HT_.out (by kernel_rfl)) (fun _ _ _ h => h) (Or.inl ⟨by rfl, ?_⟩) ?_ ?_
          rotate_left
          · intro w'; go_simp; with_reducible rfl
          rotate_left
          · simp only [Act.put, Ext.sb, Ext.sz, Ext.ss, i64_w, i32_w]; rfl
          refine pure_ (i := 34) (N := some 55) (v := ?_) (a' := ?_) zb4_38 rfl rfl (any_of HT_.out (by kernel_rfl)) (fun _ _ _ h => h) (Or.inl ⟨by rfl, ?_⟩) ?_ ?_
          rotate_left
          · intro w'; go_simp; with_reducible rfl
          rotate_left
          · simp only [Act.put, Ext.sb, Ext.sz, Ext.ss, i64_w, i32_w]; rfl
          refine pure_ (i := 35) (N := some 4) (v := ?_) (a' := ?_) zb4_39 rfl rfl (any_of HT_.out (by kernel_rfl)) (fun _ _ _ h => h) (Or.inl ⟨by rfl, ?_⟩) ?_ ?_
          rotate_left
          · intro w'; go_simp; with_reducible rfl
          rotate_left
          · simp only [Act.put, Ext.sb, Ext.sz, Ext.ss, i64_w, i32_w]; rfl
          refine done_ (done_of HT_.out (by kernel_rfl)) ?_
          try go_wp2
          go_ret
          exact ⟨by first | rfl | (simp [errW_none, errW_some] <;> rfl) | (simp only [← hji13]; first | rfl | (simp [errW_none, errW_some] <;> rfl)) | (simp [*, errW_none, errW_some] <;> rfl), by repeat (first | (with_reducible first | exact HB.out | apply Ext.ba | apply Ext.bn | apply Ext.bd) | exact HB.out | exact .refl _ _)⟩
         ·
          rw [if_neg c23] at H
          have c23b0 : (t135 == t139) = false := beq_eq_false_iff_ne.mpr c23
          have c23b1 : (t135 != t139) = true := bne_iff_ne.mpr c23
          obtain rfl := Option.some.inj H
          try go_wp2
          have n0_ := Ext.a (Kd.V_drew HO_0.out)
          have n1_ := Ext.a (below_drew1 HB.out)
          clear HO_0
          clear HB
          have HO_0 := n0_
          have HB := n1_
          clear n0_ n1_
          have q49 : ((ji13) : Int) ≤ ((l0.length : Int) : Int) := of_decide_eq_true (by first | (with_reducible assumption) | assumption)
          obtain ⟨i049, hi049, _, hsz49, _⟩ := info_parts info5
          have hroom49 : l0.length ≤ c0 := (Kd.V_reads' HO_0.out).2.1
          have hC49 : Kd.F (Kd.int .u8) _ _ A0 l0.length l0 := (Kd.V_at (base := w.heap.size) HO_0.out).2.2
          have hcut49 := cut_to (P := Try.prog) 24 5 .i64 Try.underlying24 hi049 A0 l0.length c0 (ji13) (of_decide_eq_true (by first | (with_reducible assumption) | assumption)) q49 hroom49
          have hr49 := Kd.F_take (m := ((ji13) : Int).toNat) hC49 (by omega)
          have hy49 : y114.length = ((ji13) : Int).toNat := (by rw [Ny114.out, List.length_take]; omega)
          rw [← Ny114.out] at hr49
          rw [← hy49] at hcut49
          have HO118 := Ext.a (show Kd.V (Kd.int .u8) 5 _ w.heap.size _ (.slice A0 y114.length c0) y114 from Kd.V_mk (by omega) hr49)
          have HC118 := Ext.a (show y114.length ≤ c0 from by omega)
          clear hr49 hC49 hroom49 hi049 hsz49
          have KY49 := Aside0.mk hy49
          clear hy49
          replace q49 := eq_true q49
          have q50 : ((ji13) : Int) ≤ ((l0.length : Int) : Int) := of_decide_eq_true (by first | (with_reducible assumption) | assumption)
          obtain ⟨i050, hi050, _, hsz50, _⟩ := info_parts info5
          have hroom50 : l0.length ≤ c0 := (Kd.V_reads' HO_0.out).2.1
          have hC50 : Kd.F (Kd.int .u8) _ _ A0 l0.length l0 := (Kd.V_at (base := w.heap.size) HO_0.out).2.2
          have q050 : (0 : Int) ≤ ((ji13) : Int) := of_decide_eq_true (by first | (with_reducible assumption) | assumption)
          have hcut50 := cut_from (P := Try.prog) 24 5 .i64 Try.underlying24 hi050 1 hsz50 A0 l0.length c0 (ji13) q050 q50
          have hr50 := Kd.F_cut (m := ((ji13) : Int).toNat) (c := c0) hC50 (by omega) hroom50
          obtain ⟨A50, hA50⟩ : ∃ A1, A1 = (if c0 = ((ji13) : Int).toNat then A0 else (A0 : Option Addr).map (·.add (((ji13) : Int).toNat * 1))) := ⟨_, rfl⟩
          obtain ⟨c50, hc50⟩ : ∃ c1, c1 = c0 - ((ji13) : Int).toNat := ⟨_, rfl⟩
          have hy50 : y119.length = l0.length - ((ji13) : Int).toNat := (by rw [Ny119.out, List.length_drop] <;> omega)
          rw [show (l0).drop ((ji13) : Int).toNat = y119 from Ny119.out.symm] at hr50
          replace hr50 : Kd.F (Kd.int .u8) _ _ A50 y119.length y119 := (by rw [hA50]; exact hr50)
          rw [← hy50, ← hA50, ← hc50] at hcut50
          have HO123 := Ext.a (show Kd.V (Kd.int .u8) 5 _ w.heap.size _ (.slice A50 y119.length c50) y119 from Kd.V_mk (by rw [hy50, hc50]; exact Nat.sub_le_sub_right hroom50 _) hr50)
          have HC123 := Ext.a (show y119.length ≤ c50 from by rw [hy50, hc50]; exact Nat.sub_le_sub_right hroom50 _)
          clear hr50 hC50 hroom50 hi050 hsz50 hc50
          have KY50 := Aside0.mk hy50
          have KA50 := Aside0.mk hA50
          clear hy50 hA50
          replace q50 := eq_true q50
          refine start_ (n := 36) (S := fun w' => True) (ds := []) zb4_13 (by kernel_rfl) rfl rfl trivial (fun hHeld => ?_); refine with_tabW terrierlaw02_SumJoins.tab4 terrierlaw02_SumJoins.bits4 (fun HT_ HW_ => ?_)
          generalize wc.drew = w48 at HO_0 HB HO118 HO123 hHeld ⊢
          refine pure_ (i := 0) (N := some 21) (v := ?_) (a' := ?_) zb4_14 rfl rfl (any_of HT_.out (by kernel_rfl)) (fun _ _ _ h => h) (Or.inl ⟨by rfl, ?_⟩) ?_ ?_
          rotate_left
          · intro w'; go_simp; with_reducible rfl
          rotate_left
          · simp only [Act.put, Ext.sb, Ext.sz, Ext.ss, i64_w, i32_w]; rfl
          refine pure_ (i := 1) (N := some 22) (v := ?_) (a' := ?_) zb4_15 rfl rfl (any_of HT_.out (by kernel_rfl)) (fun _ _ _ h => h) (Or.inl ⟨by rfl, ?_⟩) ?_ ?_
          rotate_left
          · intro w'; go_simp; with_reducible rfl
          rotate_left
          · simp only [Act.put, Ext.sb, Ext.sz, Ext.ss, i64_w, i32_w]; rfl
          refine pure_ (i := 2) (N := some 23) (v := ?_) (a' := ?_) zb4_16 rfl rfl (any_of HT_.out (by kernel_rfl)) (fun _ _ _ h => h) (Or.inl ⟨by rfl, ?_⟩) ?_ ?_
          rotate_left
          · intro w'; go_simp; with_reducible rfl
          rotate_left
          · simp only [Act.put, Ext.sb, Ext.sz, Ext.ss, i64_w, i32_w]; rfl
          refine pure_ (i := 3) (N := some 24) (v := ?_) (a' := ?_) zb4_17 rfl rfl (any_of HT_.out (by kernel_rfl)) (fun _ _ _ h => h) (Or.inl ⟨by rfl, ?_⟩) ?_ ?_
          rotate_left
          · intro w'; go_simp; with_reducible rfl
          rotate_left
          · simp only [Act.put, Ext.sb, Ext.sz, Ext.ss, i64_w, i32_w]; rfl
          refine pure_ (i := 4) (N := some 25) (v := ?_) (a' := ?_) zb4_18 rfl rfl (any_of HT_.out (by kernel_rfl)) (fun _ _ _ h => h) (Or.inl ⟨by rfl, ?_⟩) ?_ ?_
          rotate_left
          · intro w'; go_simp; with_reducible rfl
          rotate_left
          · simp only [Act.put, Ext.sb, Ext.sz, Ext.ss, i64_w, i32_w]; rfl
          refine pure_ (i := 5) (N := some 26) (v := ?_) (a' := ?_) zb4_19 rfl rfl (any_of HT_.out (by kernel_rfl)) (fun _ _ _ h => h) (Or.inl ⟨by rfl, ?_⟩) ?_ ?_
          rotate_left
          · intro w'; go_simp; with_reducible rfl
          rotate_left
          · simp only [Act.put, Ext.sb, Ext.sz, Ext.ss, i64_w, i32_w]; rfl
          refine pure_ (i := 8) (N := some 29) (v := ?_) (a' := ?_) zb4_20 rfl rfl (any_of HT_.out (by kernel_rfl)) (fun _ _ _ h => h) (Or.inl ⟨by rfl, ?_⟩) ?_ ?_
          rotate_left
          · intro w'; go_simp; with_reducible rfl
          rotate_left
          · simp only [Act.put, Ext.sb, Ext.sz, Ext.ss, i64_w, i32_w]; rfl
          refine join_ (σ := Value × Value × Value × Value) 18 zb4_2 (fun s_ => [(27, s_.1), (28, .int .u32 t127), (30, s_.2.1), (31, .int .u32 t131), (35, s_.2.2.1), (36, .int .u32 t135), (38, s_.2.2.2), (32, .bool true), (33, .bool true), (34, .slice A0 l0.length c0), (37, .slice A0 l0.length c0)]) (fun s_ w' => (Kd.V (Kd.int .u8) 5 w' w.heap.size (ok4_3 P0_ w s_.1 s_.2.1 s_.2.2.1 s_.2.2.2) (.slice A0 y114.length c0) y114) ∧ (Kd.V (Kd.int .u8) 5 w' w.heap.size (ok4_3 P0_ w s_.1 s_.2.1 s_.2.2.1 s_.2.2.2) (.slice A50 y119.length c50) y119) ∧ (Kd.N (Kd.slice 5 (Kd.int .u8)) 24 w' w.heap.size (ok4_4 P0_ w s_.2.1 s_.2.2.1 s_.2.2.2) s_.1 y124) ∧ (Kd.N (Kd.slice 5 (Kd.int .u8)) 24 w' w.heap.size (ok4_4 P0_ w s_.1 s_.2.2.1 s_.2.2.2) s_.2.1 y128) ∧ (Kd.N (Kd.slice 5 (Kd.int .u8)) 24 w' w.heap.size (ok4_4 P0_ w s_.1 s_.2.1 s_.2.2.2) s_.2.2.1 y132) ∧ (Kd.N (Kd.slice 5 (Kd.int .u8)) 24 w' w.heap.size (ok4_4 P0_ w s_.1 s_.2.1 s_.2.2.1) s_.2.2.2 y136) ∧ (Kd.V (Kd.int .u8) 5 w' w.heap.size (ok4_3 P0_ w s_.1 s_.2.1 s_.2.2.1 s_.2.2.2) (.slice A0 l0.length c0) l0) ∧ (Below w.heap.size w w')) ?_ ?_
          rotate_left
          ·
           intro hJ6_7_9_10_14_15_17
           refine join_ (σ := Value × Value × Value) 19 zb4_7 (fun s_ => [(27, s_.1), (28, .int .u32 t127), (30, s_.2.1), (31, .int .u32 t131), (35, s_.2.2), (36, .int .u32 t135), (32, .bool true), (33, .bool true), (34, .slice A0 l0.length c0), (37, .slice A0 l0.length c0)]) (fun s_ w' => (Kd.V (Kd.int .u8) 5 w' w.heap.size (ok4_4 P0_ w s_.1 s_.2.1 s_.2.2) (.slice A0 y114.length c0) y114) ∧ (Kd.V (Kd.int .u8) 5 w' w.heap.size (ok4_4 P0_ w s_.1 s_.2.1 s_.2.2) (.slice A50 y119.length c50) y119) ∧ (Kd.N (Kd.slice 5 (Kd.int .u8)) 24 w' w.heap.size (ok4_5 P0_ w s_.2.1 s_.2.2) s_.1 y124) ∧ (Kd.N (Kd.slice 5 (Kd.int .u8)) 24 w' w.heap.size (ok4_5 P0_ w s_.1 s_.2.2) s_.2.1 y128) ∧ (Kd.N (Kd.slice 5 (Kd.int .u8)) 24 w' w.heap.size (ok4_5 P0_ w s_.1 s_.2.1) s_.2.2 y132) ∧ (Kd.V (Kd.int .u8) 5 w' w.heap.size (ok4_4 P0_ w s_.1 s_.2.1 s_.2.2) (.slice A0 l0.length c0) l0) ∧ (Below w.heap.size w w')) ?_ ?_
           rotate_left
           ·
            intro hJ6_7_9_10_14_15
            refine join_ (σ := Value × Value × Value × Value) 19 zb4_3 (fun s_ => [(27, s_.1), (28, .int .u32 t127), (30, s_.2.1), (31, .int .u32 t131), (35, s_.2.2.1), (38, s_.2.2.2), (32, .bool true), (33, .bool true), (34, .slice A0 l0.length c0), (37, .slice A0 l0.length c0)]) (fun s_ w' => (Kd.V (Kd.int .u8) 5 w' w.heap.size (ok4_3 P0_ w s_.1 s_.2.1 s_.2.2.1 s_.2.2.2) (.slice A0 y114.length c0) y114) ∧ (Kd.V (Kd.int .u8) 5 w' w.heap.size (ok4_3 P0_ w s_.1 s_.2.1 s_.2.2.1 s_.2.2.2) (.slice A50 y119.length c50) y119) ∧ (Kd.N (Kd.slice 5 (Kd.int .u8)) 24 w' w.heap.size (ok4_4 P0_ w s_.2.1 s_.2.2.1 s_.2.2.2) s_.1 y124) ∧ (Kd.N (Kd.slice 5 (Kd.int .u8)) 24 w' w.heap.size (ok4_4 P0_ w s_.1 s_.2.2.1 s_.2.2.2) s_.2.1 y128) ∧ (Kd.N (Kd.slice 5 (Kd.int .u8)) 24 w' w.heap.size (ok4_4 P0_ w s_.1 s_.2.1 s_.2.2.2) s_.2.2.1 y132) ∧ (Kd.N (Kd.slice 5 (Kd.int .u8)) 24 w' w.heap.size (ok4_4 P0_ w s_.1 s_.2.1 s_.2.2.1) s_.2.2.2 y136) ∧ (Kd.V (Kd.int .u8) 5 w' w.heap.size (ok4_3 P0_ w s_.1 s_.2.1 s_.2.2.1 s_.2.2.2) (.slice A0 l0.length c0) l0) ∧ (Below w.heap.size w w')) ?_ ?_
            rotate_left
            ·
             intro hJ6_7_9_10_14_17
             refine join_ (σ := Value × Value × Value) 20 zb4_10 (fun s_ => [(27, s_.1), (28, .int .u32 t127), (30, s_.2.1), (31, .int .u32 t131), (35, s_.2.2), (32, .bool true), (33, .bool true), (34, .slice A0 l0.length c0), (37, .slice A0 l0.length c0)]) (fun s_ w' => (Kd.V (Kd.int .u8) 5 w' w.heap.size (ok4_4 P0_ w s_.1 s_.2.1 s_.2.2) (.slice A0 y114.length c0) y114) ∧ (Kd.V (Kd.int .u8) 5 w' w.heap.size (ok4_4 P0_ w s_.1 s_.2.1 s_.2.2) (.slice A50 y119.length c50) y119) ∧ (Kd.N (Kd.slice 5 (Kd.int .u8)) 24 w' w.heap.size (ok4_5 P0_ w s_.2.1 s_.2.2) s_.1 y124) ∧ (Kd.N (Kd.slice 5 (Kd.int .u8)) 24 w' w.heap.size (ok4_5 P0_ w s_.1 s_.2.2) s_.2.1 y128) ∧ (Kd.N (Kd.slice 5 (Kd.int .u8)) 24 w' w.heap.size (ok4_5 P0_ w s_.1 s_.2.1) s_.2.2 y132) ∧ (Kd.V (Kd.int .u8) 5 w' w.heap.size (ok4_4 P0_ w s_.1 s_.2.1 s_.2.2) (.slice A0 l0.length c0) l0) ∧ (Below w.heap.size w w')) ?_ ?_
             rotate_left
             ·
              intro hJ6_7_9_10_14
              refine join_ (σ := Value × Value × Value) 20 zb4_11 (fun s_ => [(27, s_.1), (28, .int .u32 t127), (30, s_.2.1), (31, .int .u32 t131), (38, s_.2.2), (32, .bool true), (33, .bool true), (34, .slice A0 l0.length c0), (37, .slice A0 l0.length c0)]) (fun s_ w' => (Kd.V (Kd.int .u8) 5 w' w.heap.size (ok4_4 P0_ w s_.1 s_.2.1 s_.2.2) (.slice A0 y114.length c0) y114) ∧ (Kd.V (Kd.int .u8) 5 w' w.heap.size (ok4_4 P0_ w s_.1 s_.2.1 s_.2.2) (.slice A50 y119.length c50) y119) ∧ (Kd.N (Kd.slice 5 (Kd.int .u8)) 24 w' w.heap.size (ok4_5 P0_ w s_.2.1 s_.2.2) s_.1 y124) ∧ (Kd.N (Kd.slice 5 (Kd.int .u8)) 24 w' w.heap.size (ok4_5 P0_ w s_.1 s_.2.2) s_.2.1 y128) ∧ (Kd.N (Kd.slice 5 (Kd.int .u8)) 24 w' w.heap.size (ok4_5 P0_ w s_.1 s_.2.1) s_.2.2 y136) ∧ (Kd.V (Kd.int .u8) 5 w' w.heap.size (ok4_4 P0_ w s_.1 s_.2.1 s_.2.2) (.slice A0 l0.length c0) l0) ∧ (Below w.heap.size w w')) ?_ ?_
              rotate_left
              ·
               intro hJ6_7_9_10_17
               refine join_ (σ := Value × Value) 21 zb4_9 (fun s_ => [(27, s_.1), (28, .int .u32 t127), (30, s_.2), (31, .int .u32 t131), (32, .bool true), (33, .bool true), (34, .slice A0 l0.length c0), (37, .slice A0 l0.length c0)]) (fun s_ w' => (Kd.V (Kd.int .u8) 5 w' w.heap.size (ok4_5 P0_ w s_.1 s_.2) (.slice A0 y114.length c0) y114) ∧ (Kd.V (Kd.int .u8) 5 w' w.heap.size (ok4_5 P0_ w s_.1 s_.2) (.slice A50 y119.length c50) y119) ∧ (Kd.N (Kd.slice 5 (Kd.int .u8)) 24 w' w.heap.size (ok4_6 P0_ w s_.2) s_.1 y124) ∧ (Kd.N (Kd.slice 5 (Kd.int .u8)) 24 w' w.heap.size (ok4_6 P0_ w s_.1) s_.2 y128) ∧ (Kd.V (Kd.int .u8) 5 w' w.heap.size (ok4_5 P0_ w s_.1 s_.2) (.slice A0 l0.length c0) l0) ∧ (Below w.heap.size w w')) ?_ ?_
               rotate_left
               ·
                intro hJ6_7_9_10
                refine join_ (σ := Value × Value) 26 zb4_0 (fun s_ => [(27, s_.1), (28, .int .u32 t127), (30, s_.2)]) (fun s_ w' => (Kd.V (Kd.int .u8) 5 w' w.heap.size (ok4_5 P0_ w s_.1 s_.2) (.slice A0 y114.length c0) y114) ∧ (Kd.V (Kd.int .u8) 5 w' w.heap.size (ok4_5 P0_ w s_.1 s_.2) (.slice A50 y119.length c50) y119) ∧ (Kd.N (Kd.slice 5 (Kd.int .u8)) 24 w' w.heap.size (ok4_6 P0_ w s_.2) s_.1 y124) ∧ (Kd.N (Kd.slice 5 (Kd.int .u8)) 24 w' w.heap.size (ok4_6 P0_ w s_.1) s_.2 y128) ∧ (Kd.V (Kd.int .u8) 5 w' w.heap.size (ok4_5 P0_ w s_.1 s_.2) (.slice A0 l0.length c0) l0) ∧ (Below w.heap.size w w')) ?_ ?_
                rotate_left
                ·
                 intro hJ6_7_9
                 refine join_ (σ := Value) 27 zb4_6 (fun s_ => [(27, s_), (28, .int .u32 t127)]) (fun s_ w' => (Kd.V (Kd.int .u8) 5 w' w.heap.size (ok4_6 P0_ w s_) (.slice A0 y114.length c0) y114) ∧ (Kd.V (Kd.int .u8) 5 w' w.heap.size (ok4_6 P0_ w s_) (.slice A50 y119.length c50) y119) ∧ (Kd.N (Kd.slice 5 (Kd.int .u8)) 24 w' w.heap.size (ok4_0 P0_ w) s_ y124) ∧ (Kd.V (Kd.int .u8) 5 w' w.heap.size (ok4_6 P0_ w s_) (.slice A0 l0.length c0) l0) ∧ (Below w.heap.size w w')) ?_ ?_
                 rotate_left
                 ·
                  intro hJ6_7
                  refine join_ (σ := Value × Value) 27 zb4_1 (fun s_ => [(27, s_.1), (30, s_.2)]) (fun s_ w' => (Kd.V (Kd.int .u8) 5 w' w.heap.size (ok4_5 P0_ w s_.1 s_.2) (.slice A0 y114.length c0) y114) ∧ (Kd.V (Kd.int .u8) 5 w' w.heap.size (ok4_5 P0_ w s_.1 s_.2) (.slice A50 y119.length c50) y119) ∧ (Kd.N (Kd.slice 5 (Kd.int .u8)) 24 w' w.heap.size (ok4_6 P0_ w s_.2) s_.1 y124) ∧ (Kd.N (Kd.slice 5 (Kd.int .u8)) 24 w' w.heap.size (ok4_6 P0_ w s_.1) s_.2 y128) ∧ (Kd.V (Kd.int .u8) 5 w' w.heap.size (ok4_5 P0_ w s_.1 s_.2) (.slice A0 l0.length c0) l0) ∧ (Below w.heap.size w w')) ?_ ?_
                  rotate_left
                  ·
                   intro hJ6_9
                   refine join_ (σ := Value) 28 zb4_4 (fun s_ => [(27, s_)]) (fun s_ w' => (Kd.V (Kd.int .u8) 5 w' w.heap.size (ok4_6 P0_ w s_) (.slice A0 y114.length c0) y114) ∧ (Kd.V (Kd.int .u8) 5 w' w.heap.size (ok4_6 P0_ w s_) (.slice A50 y119.length c50) y119) ∧ (Kd.N (Kd.slice 5 (Kd.int .u8)) 24 w' w.heap.size (ok4_0 P0_ w) s_ y124) ∧ (Kd.V (Kd.int .u8) 5 w' w.heap.size (ok4_6 P0_ w s_) (.slice A0 l0.length c0) l0) ∧ (Below w.heap.size w w')) ?_ ?_
                   rotate_left
                   ·
                    intro hJ6
                    refine join_ (σ := Value) 28 zb4_5 (fun s_ => [(30, s_)]) (fun s_ w' => (Kd.V (Kd.int .u8) 5 w' w.heap.size (ok4_6 P0_ w s_) (.slice A0 y114.length c0) y114) ∧ (Kd.V (Kd.int .u8) 5 w' w.heap.size (ok4_6 P0_ w s_) (.slice A50 y119.length c50) y119) ∧ (Kd.N (Kd.slice 5 (Kd.int .u8)) 24 w' w.heap.size (ok4_0 P0_ w) s_ y128) ∧ (Kd.V (Kd.int .u8) 5 w' w.heap.size (ok4_6 P0_ w s_) (.slice A0 l0.length c0) l0) ∧ (Below w.heap.size w w')) ?_ ?_
                    rotate_left
                    ·
                     intro hJ9
                     refine two_ (i := 6) (j := 9) (Ni := some 27) (Nj := some 30) zb4_4 zb4_5 rfl rfl rfl rfl (two_of HT_.out (by kernel_rfl)) (by decide) (by decide) (fun K hK => ?_) (fun K hK => ?_)
                     ·
                      skip
                      refine Kd.N_lit_step (Kd.slice 5 (Kd.int .u8)) _ 24 ?hg (N' := 27) ?hd (xs := ([y114, y119] : List (List Int))) (inner := [.slice A0 y114.length c0, .slice A50 y119.length c50]) (ok := (ok4_0 P0_ w)) (okp := (ok4_0 P0_ w)) ?hr ?hp (fun _ hk => hk) ((show ∀ k_, w48.heap.size ≤ k_ → (ok4_0 P0_ w) k_ from fun k_ hk => (.inr (Nat.le_trans (below_size (Ext.nB HB.out)) hk))) _ (Nat.le_refl _)) (Below.refl _ _) (Nat.le_refl _) (by simp) ?_; (case hd => rfl); (case hg => rfl); (case hr => first | (go_simp; done) | (go_simp; rfl)); (case hp => exact (Reps.one (show Kd.FK (Kd.slice 5 (Kd.int .u8)) _ _ y114 [.slice A0 y114.length c0] from (Kd.FK_slice_mk (Kd.V_reads' (Kd.V_mono (e := 0) (base := 0) (ok' := (ok4_0 P0_ w)) (HO118.out) (fun k_ hk => hk))).2.1 (Kd.V_F (e := 0) (base := 0) (Kd.V_mono (e := 0) (base := 0) (ok' := (ok4_0 P0_ w)) (HO118.out) (fun k_ hk => hk))))) (Reps.one (show Kd.FK (Kd.slice 5 (Kd.int .u8)) _ _ y119 [.slice A50 y119.length c50] from (Kd.FK_slice_mk (Kd.V_reads' (Kd.V_mono (e := 0) (base := 0) (ok' := (ok4_0 P0_ w)) (HO123.out) (fun k_ hk => hk))).2.1 (Kd.V_F (e := 0) (base := 0) (Kd.V_mono (e := 0) (base := 0) (ok' := (ok4_0 P0_ w)) (HO123.out) (fun k_ hk => hk))))) (Reps.none _ _))))
                      intro v125 w51 ho52 hb hg_ hnew_
                      clear hg_ hnew_
                      (first | rw [← Ny124.out] at ho52 | (simp only [Int.reduceToNat] at ho52; rw [← Ny124.out] at ho52))
                      have n0_ := Ext.a (Kd.V_elder' (Ext.nV HO_0.out) (Kd.N_base ho52) hb)
                      have n1_ := Ext.a (Kd.V_elder' (Ext.nV HO118.out) (Kd.N_base ho52) hb)
                      have n2_ := Ext.a (Kd.V_elder' (Ext.nV HO123.out) (Kd.N_base ho52) hb)
                      have n3_ := Ext.a (Kd.N_lower ho52 (below_size (Ext.nB HB.out)))
                      have n4_ := Ext.a (below_step (Ext.nB HB.out) hb)
                      clear HO_0
                      clear HO118
                      clear HO123
                      clear HB
                      have HO_0 := n0_
                      have HO118 := n1_
                      have HO123 := n2_
                      have HO126 := n3_
                      have HB := n4_
                      clear n0_ n1_ n2_ n3_ n4_
                      clear hb ho52
                      refine hK.out _ _ trivial (fun hHeld => ?_)
                      clear hK K
                      refine norm_ (a' := ?_) ?_ ?_
                      rotate_left
                      · show Act.put _ (some 27) _ = _; simp only [Act.put, Ext.sb, Ext.sz, Ext.ss, i64_w, i32_w]; rfl
                      exact norm_ (by first | (simp only [putAll, Act.put, Ext.sb, Ext.sz, Ext.ss]; done) | (simp only [putAll, Act.put, Ext.sb, Ext.sz, Ext.ss]; rfl)) (hJ6 (v125) _ ⟨(Ext.nV HO118.out), (Ext.nV HO123.out), (Ext.nN HO126.out), (Ext.nV HO_0.out), (Ext.nB HB.out)⟩)
                     ·
                      skip
                      refine Kd.N_lit_step (Kd.slice 5 (Kd.int .u8)) _ 24 ?hg (N' := 30) ?hd (xs := ([l0] : List (List Int))) (inner := [.slice A0 l0.length c0]) (ok := (ok4_0 P0_ w)) (okp := (ok4_0 P0_ w)) ?hr ?hp (fun _ hk => hk) ((show ∀ k_, w48.heap.size ≤ k_ → (ok4_0 P0_ w) k_ from fun k_ hk => (.inr (Nat.le_trans (below_size (Ext.nB HB.out)) hk))) _ (Nat.le_refl _)) (Below.refl _ _) (Nat.le_refl _) (by simp) ?_; (case hd => rfl); (case hg => rfl); (case hr => first | (go_simp; done) | (go_simp; rfl)); (case hp => exact (Reps.one (show Kd.FK (Kd.slice 5 (Kd.int .u8)) _ _ l0 [.slice A0 l0.length c0] from (Kd.FK_slice_mk (Kd.V_reads' (Kd.V_mono (e := 0) (base := 0) (ok' := (ok4_0 P0_ w)) (HO_0.out) (fun k_ hk => hk))).2.1 (Kd.V_F (e := 0) (base := 0) (Kd.V_mono (e := 0) (base := 0) (ok' := (ok4_0 P0_ w)) (HO_0.out) (fun k_ hk => hk))))) (Reps.none _ _)))
                      intro v129 w51 ho52 hb hg_ hnew_
                      clear hg_ hnew_
                      (first | rw [← Ny128.out] at ho52 | (simp only [Int.reduceToNat] at ho52; rw [← Ny128.out] at ho52))
                      have n0_ := Ext.a (Kd.V_elder' (Ext.nV HO_0.out) (Kd.N_base ho52) hb)
                      have n1_ := Ext.a (Kd.V_elder' (Ext.nV HO118.out) (Kd.N_base ho52) hb)
                      have n2_ := Ext.a (Kd.V_elder' (Ext.nV HO123.out) (Kd.N_base ho52) hb)
                      have n3_ := Ext.a (Kd.N_lower ho52 (below_size (Ext.nB HB.out)))
                      have n4_ := Ext.a (below_step (Ext.nB HB.out) hb)
                      clear HO_0
                      clear HO118
                      clear HO123
                      clear HB
                      have HO_0 := n0_
                      have HO118 := n1_
                      have HO123 := n2_
                      have HO130 := n3_
                      have HB := n4_
                      clear n0_ n1_ n2_ n3_ n4_
                      clear hb ho52
                      refine hK.out _ _ trivial (fun hHeld => ?_)
                      clear hK K
                      refine norm_ (a' := ?_) ?_ ?_
                      rotate_left
                      · show Act.put _ (some 30) _ = _; simp only [Act.put, Ext.sb, Ext.sz, Ext.ss, i64_w, i32_w]; rfl
                      exact norm_ (by first | (simp only [putAll, Act.put, Ext.sb, Ext.sz, Ext.ss]; done) | (simp only [putAll, Act.put, Ext.sb, Ext.sz, Ext.ss]; rfl)) (hJ9 (v129) _ ⟨(Ext.nV HO118.out), (Ext.nV HO123.out), (Ext.nN HO130.out), (Ext.nV HO_0.out), (Ext.nB HB.out)⟩)
                    ·
                     skip
                     rintro v129 w53 ⟨h0_, h1_, h2_, h3_, h4_⟩
                     have n0_ : Aside0 (Kd.V (Kd.int .u8) 5 w53 w.heap.size (ok4_6 P0_ w v129) (.slice A0 y114.length c0) y114) := ⟨h0_⟩
                     have n1_ : Aside0 (Kd.V (Kd.int .u8) 5 w53 w.heap.size (ok4_6 P0_ w v129) (.slice A50 y119.length c50) y119) := ⟨h1_⟩
                     have n2_ : Aside0 (Kd.N (Kd.slice 5 (Kd.int .u8)) 24 w53 w.heap.size (ok4_0 P0_ w) v129 y128) := ⟨h2_⟩
                     have n3_ : Aside0 (Kd.V (Kd.int .u8) 5 w53 w.heap.size (ok4_6 P0_ w v129) (.slice A0 l0.length c0) l0) := ⟨h3_⟩
                     have n4_ : Aside0 (Below w.heap.size w w53) := ⟨h4_⟩
                     clear HO_0
                     clear HB
                     clear h0_ h1_ h2_ h3_ h4_
                     have HO118 := n0_
                     have HO123 := n1_
                     have HO130 := n2_
                     have HO_0 := n3_
                     have HB := n4_
                     clear n0_ n1_ n2_ n3_ n4_
                     have hHeld := trivial
                     refine norm_ (a' := ?_) ?_ ?_
                     rotate_left
                     · simp only [putAll, Act.put, Ext.sb, Ext.sz, Ext.ss]; rfl
                     refine one_ (i := 6) (N := some 27) zb4_1 rfl rfl (one_of HT_.out (by kernel_rfl)) (by decide) (fun K hK => ?_)
                     refine Kd.N_lit_step (Kd.slice 5 (Kd.int .u8)) _ 24 ?hg (N' := 27) ?hd (xs := ([y114, y119] : List (List Int))) (inner := [.slice A0 y114.length c0, .slice A50 y119.length c50]) (ok := (ok4_6 P0_ w v129)) (okp := (ok4_6 P0_ w v129)) ?hr ?hp (fun _ hk => hk) ((show ∀ k_, w53.heap.size ≤ k_ → (ok4_6 P0_ w v129) k_ from fun k_ hk => ⟨(.inr (Nat.le_trans (below_size (Ext.nB HB.out)) hk)), Kd.fresh' (Kd.N_lt (Ext.nN HO130.out)) k_ hk⟩) _ (Nat.le_refl _)) (Below.refl _ _) (Nat.le_refl _) (by simp) ?_; (case hd => rfl); (case hg => rfl); (case hr => first | (go_simp; done) | (go_simp; rfl)); (case hp => exact (Reps.one (show Kd.FK (Kd.slice 5 (Kd.int .u8)) _ _ y114 [.slice A0 y114.length c0] from (Kd.FK_slice_mk (Kd.V_reads' (Kd.V_mono (e := 0) (base := 0) (ok' := (ok4_6 P0_ w v129)) (HO118.out) (fun k_ hk => ⟨hk.1, hk.2⟩))).2.1 (Kd.V_F (e := 0) (base := 0) (Kd.V_mono (e := 0) (base := 0) (ok' := (ok4_6 P0_ w v129)) (HO118.out) (fun k_ hk => ⟨hk.1, hk.2⟩))))) (Reps.one (show Kd.FK (Kd.slice 5 (Kd.int .u8)) _ _ y119 [.slice A50 y119.length c50] from (Kd.FK_slice_mk (Kd.V_reads' (Kd.V_mono (e := 0) (base := 0) (ok' := (ok4_6 P0_ w v129)) (HO123.out) (fun k_ hk => ⟨hk.1, hk.2⟩))).2.1 (Kd.V_F (e := 0) (base := 0) (Kd.V_mono (e := 0) (base := 0) (ok' := (ok4_6 P0_ w v129)) (HO123.out) (fun k_ hk => ⟨hk.1, hk.2⟩))))) (Reps.none _ _))))
                     intro v125 w54 ho55 hb hg_ hnew_
                     clear hg_ hnew_
                     (first | rw [← Ny124.out] at ho55 | (simp only [Int.reduceToNat] at ho55; rw [← Ny124.out] at ho55))
                     have n0_ := Ext.a (Kd.V_elder' (Ext.nV HO_0.out) (Kd.N_base ho55) hb)
                     have n1_ := Ext.a (Kd.V_elder' (Ext.nV HO118.out) (Kd.N_base ho55) hb)
                     have n2_ := Ext.a (Kd.V_elder' (Ext.nV HO123.out) (Kd.N_base ho55) hb)
                     have n3_ := Ext.a (Kd.N_elder' (Ext.nN HO130.out) (Kd.N_base ho55) hb)
                     have n4_ := Ext.a (Kd.N_lower ho55 (below_size (Ext.nB HB.out)))
                     have n5_ := Ext.a (below_step (Ext.nB HB.out) hb)
                     clear HO_0
                     clear HO118
                     clear HO123
                     clear HO130
                     clear HB
                     have HO_0 := n0_
                     have HO118 := n1_
                     have HO123 := n2_
                     have HO130 := n3_
                     have HO126 := n4_
                     have HB := n5_
                     clear n0_ n1_ n2_ n3_ n4_ n5_
                     clear hb ho55
                     refine hK.out _ _ trivial (fun hHeld => ?_)
                     clear hK K
                     refine norm_ (a' := ?_) ?_ ?_
                     rotate_left
                     · show Act.put _ (some 27) _ = _; simp only [Act.put, Ext.sb, Ext.sz, Ext.ss, i64_w, i32_w]; rfl
                     exact norm_ (by first | (simp only [putAll, Act.put, Ext.sb, Ext.sz, Ext.ss]; done) | (simp only [putAll, Act.put, Ext.sb, Ext.sz, Ext.ss]; rfl)) (hJ6_9 (v125, v129) _ ⟨(Ext.nV (Kd.V_mono HO118.out (fun _ hk => ⟨hk.1.1, ⟨hk.2, hk.1.2⟩⟩))), (Ext.nV (Kd.V_mono HO123.out (fun _ hk => ⟨hk.1.1, ⟨hk.2, hk.1.2⟩⟩))), (Ext.nN HO126.out), (Ext.nN HO130.out), (Ext.nV (Kd.V_mono HO_0.out (fun _ hk => ⟨hk.1.1, ⟨hk.2, hk.1.2⟩⟩))), (Ext.nB HB.out)⟩)
                   ·
                    skip
                    rintro v125 w53 ⟨h0_, h1_, h2_, h3_, h4_⟩
                    have n0_ : Aside0 (Kd.V (Kd.int .u8) 5 w53 w.heap.size (ok4_6 P0_ w v125) (.slice A0 y114.length c0) y114) := ⟨h0_⟩
                    have n1_ : Aside0 (Kd.V (Kd.int .u8) 5 w53 w.heap.size (ok4_6 P0_ w v125) (.slice A50 y119.length c50) y119) := ⟨h1_⟩
                    have n2_ : Aside0 (Kd.N (Kd.slice 5 (Kd.int .u8)) 24 w53 w.heap.size (ok4_0 P0_ w) v125 y124) := ⟨h2_⟩
                    have n3_ : Aside0 (Kd.V (Kd.int .u8) 5 w53 w.heap.size (ok4_6 P0_ w v125) (.slice A0 l0.length c0) l0) := ⟨h3_⟩
                    have n4_ : Aside0 (Below w.heap.size w w53) := ⟨h4_⟩
                    clear HO_0
                    clear HB
                    clear h0_ h1_ h2_ h3_ h4_
                    have HO118 := n0_
                    have HO123 := n1_
                    have HO126 := n2_
                    have HO_0 := n3_
                    have HB := n4_
                    clear n0_ n1_ n2_ n3_ n4_
                    have hHeld := trivial
                    obtain ⟨Ao54, co54, eo54⟩ := Kd.N_slice HO126.out
                    (first | subst eo54 | (injection eo54 with f1_ f2_ f3_; have f4_ := f1_.symm; have f5_ := f3_.symm; clear f1_ f2_ f3_; subst f4_; subst f5_))
                    refine norm_ (a' := ?_) ?_ ?_
                    rotate_left
                    · simp only [putAll, Act.put, Ext.sb, Ext.sz, Ext.ss]; rfl
                    refine two_ (i := 7) (j := 9) (Ni := some 28) (Nj := some 30) zb4_6 zb4_1 rfl rfl rfl rfl (two_of HT_.out (by kernel_rfl)) (by decide) (by decide) (fun K hK => ?_) (fun K hK => ?_)
                    ·
                     skip
                     refine goes_ Try.func9 (by kernel_rfl) rfl #[.slice Ao54 y124.length co54] (by rfl) rfl rfl (by (try simp only [List.map_toArray, List.map_cons, List.map_nil]); first | done | rfl | (simp only [List.length_drop, List.length_take]; rfl)) ?_
                     with_reducible refine (sum_Sum.calls kj7 _ _ y124 t127 _ ?side1 ?side2 A18.out).mono ?_
                     (case side1 => exact Ext.nC (Kd.N_reads' HO126.out).2.2)
                     (case side2 => exact (Kd.N_reads' HO126.out).2.1)
                     rintro e w' ⟨rfl, ⟨nd, rfl⟩⟩
                     refine ⟨_, rfl, ?_⟩
                     refine hK.out _ _ trivial (fun hHeld => ?_)
                     clear hK K
                     refine norm_ (a' := ?_) ?_ ?_
                     rotate_left
                     · show Act.put _ (some 28) _ = _; simp only [Act.put, Ext.sb, Ext.sz, Ext.ss, i64_w, i32_w]; rfl
                     exact norm_ (by first | (simp only [putAll, Act.put, Ext.sb, Ext.sz, Ext.ss]; done) | (simp only [putAll, Act.put, Ext.sb, Ext.sz, Ext.ss]; rfl)) (hJ6_7 (.slice Ao54 y124.length co54) _ ⟨(Ext.nV HO118.out), (Ext.nV HO123.out), (Ext.nN HO126.out), (Ext.nV HO_0.out), (Ext.nB HB.out)⟩)
                    ·
                     skip
                     refine Kd.N_lit_step (Kd.slice 5 (Kd.int .u8)) _ 24 ?hg (N' := 30) ?hd (xs := ([l0] : List (List Int))) (inner := [.slice A0 l0.length c0]) (ok := (ok4_6 P0_ w (.slice Ao54 y124.length co54))) (okp := (ok4_6 P0_ w (.slice Ao54 y124.length co54))) ?hr ?hp (fun _ hk => hk) ((show ∀ k_, w53.heap.size ≤ k_ → (ok4_6 P0_ w (.slice Ao54 y124.length co54)) k_ from fun k_ hk => ⟨(.inr (Nat.le_trans (below_size (Ext.nB HB.out)) hk)), Kd.fresh' (Kd.N_lt (Ext.nN HO126.out)) k_ hk⟩) _ (Nat.le_refl _)) (Below.refl _ _) (Nat.le_refl _) (by simp) ?_; (case hd => rfl); (case hg => rfl); (case hr => first | (go_simp; done) | (go_simp; rfl)); (case hp => exact (Reps.one (show Kd.FK (Kd.slice 5 (Kd.int .u8)) _ _ l0 [.slice A0 l0.length c0] from (Kd.FK_slice_mk (Kd.V_reads' (Kd.V_mono (e := 0) (base := 0) (ok' := (ok4_6 P0_ w (.slice Ao54 y124.length co54))) (HO_0.out) (fun k_ hk => ⟨hk.1, hk.2⟩))).2.1 (Kd.V_F (e := 0) (base := 0) (Kd.V_mono (e := 0) (base := 0) (ok' := (ok4_6 P0_ w (.slice Ao54 y124.length co54))) (HO_0.out) (fun k_ hk => ⟨hk.1, hk.2⟩))))) (Reps.none _ _)))
                     intro v129 w54 ho55 hb hg_ hnew_
                     clear hg_ hnew_
                     (first | rw [← Ny128.out] at ho55 | (simp only [Int.reduceToNat] at ho55; rw [← Ny128.out] at ho55))
                     have n0_ := Ext.a (Kd.V_elder' (Ext.nV HO_0.out) (Kd.N_base ho55) hb)
                     have n1_ := Ext.a (Kd.V_elder' (Ext.nV HO118.out) (Kd.N_base ho55) hb)
                     have n2_ := Ext.a (Kd.V_elder' (Ext.nV HO123.out) (Kd.N_base ho55) hb)
                     have n3_ := Ext.a (Kd.N_elder' (Ext.nN HO126.out) (Kd.N_base ho55) hb)
                     have n4_ := Ext.a (Kd.N_lower ho55 (below_size (Ext.nB HB.out)))
                     have n5_ := Ext.a (below_step (Ext.nB HB.out) hb)
                     clear HO_0
                     clear HO118
                     clear HO123
                     clear HO126
                     clear HB
                     have HO_0 := n0_
                     have HO118 := n1_
                     have HO123 := n2_
                     have HO126 := n3_
                     have HO130 := n4_
                     have HB := n5_
                     clear n0_ n1_ n2_ n3_ n4_ n5_
                     clear hb ho55
                     refine hK.out _ _ trivial (fun hHeld => ?_)
                     clear hK K
                     refine norm_ (a' := ?_) ?_ ?_
                     rotate_left
                     · show Act.put _ (some 30) _ = _; simp only [Act.put, Ext.sb, Ext.sz, Ext.ss, i64_w, i32_w]; rfl
                     exact norm_ (by first | (simp only [putAll, Act.put, Ext.sb, Ext.sz, Ext.ss]; done) | (simp only [putAll, Act.put, Ext.sb, Ext.sz, Ext.ss]; rfl)) (hJ6_9 ((.slice Ao54 y124.length co54), v129) _ ⟨(Ext.nV (Kd.V_mono HO118.out (fun _ hk => ⟨hk.1.1, ⟨hk.1.2, hk.2⟩⟩))), (Ext.nV (Kd.V_mono HO123.out (fun _ hk => ⟨hk.1.1, ⟨hk.1.2, hk.2⟩⟩))), (Ext.nN HO126.out), (Ext.nN HO130.out), (Ext.nV (Kd.V_mono HO_0.out (fun _ hk => ⟨hk.1.1, ⟨hk.1.2, hk.2⟩⟩))), (Ext.nB HB.out)⟩)
                  ·
                   skip
                   rintro ⟨v125, v129⟩ w55 ⟨h0_, h1_, h2_, h3_, h4_, h5_⟩
                   have n0_ : Aside0 (Kd.V (Kd.int .u8) 5 w55 w.heap.size (ok4_5 P0_ w v125 v129) (.slice A0 y114.length c0) y114) := ⟨h0_⟩
                   have n1_ : Aside0 (Kd.V (Kd.int .u8) 5 w55 w.heap.size (ok4_5 P0_ w v125 v129) (.slice A50 y119.length c50) y119) := ⟨h1_⟩
                   have n2_ : Aside0 (Kd.N (Kd.slice 5 (Kd.int .u8)) 24 w55 w.heap.size (ok4_6 P0_ w v129) v125 y124) := ⟨h2_⟩
                   have n3_ : Aside0 (Kd.N (Kd.slice 5 (Kd.int .u8)) 24 w55 w.heap.size (ok4_6 P0_ w v125) v129 y128) := ⟨h3_⟩
                   have n4_ : Aside0 (Kd.V (Kd.int .u8) 5 w55 w.heap.size (ok4_5 P0_ w v125 v129) (.slice A0 l0.length c0) l0) := ⟨h4_⟩
                   have n5_ : Aside0 (Below w.heap.size w w55) := ⟨h5_⟩
                   clear HO_0
                   clear HB
                   clear h0_ h1_ h2_ h3_ h4_ h5_
                   have HO118 := n0_
                   have HO123 := n1_
                   have HO126 := n2_
                   have HO130 := n3_
                   have HO_0 := n4_
                   have HB := n5_
                   clear n0_ n1_ n2_ n3_ n4_ n5_
                   have hHeld := trivial
                   obtain ⟨Ao56, co56, eo56⟩ := Kd.N_slice HO126.out
                   (first | subst eo56 | (injection eo56 with f1_ f2_ f3_; have f4_ := f1_.symm; have f5_ := f3_.symm; clear f1_ f2_ f3_; subst f4_; subst f5_))
                   refine norm_ (a' := ?_) ?_ ?_
                   rotate_left
                   · simp only [putAll, Act.put, Ext.sb, Ext.sz, Ext.ss]; rfl
                   refine one_ (i := 7) (N := some 28) zb4_0 rfl rfl (one_of HT_.out (by kernel_rfl)) (by decide) (fun K hK => ?_)
                   refine goes_ Try.func9 (by kernel_rfl) rfl #[.slice Ao56 y124.length co56] (by rfl) rfl rfl (by (try simp only [List.map_toArray, List.map_cons, List.map_nil]); first | done | rfl | (simp only [List.length_drop, List.length_take]; rfl)) ?_
                   with_reducible refine (sum_Sum.calls kj7 _ _ y124 t127 _ ?side1 ?side2 A18.out).mono ?_
                   (case side1 => exact Ext.nC (Kd.N_reads' HO126.out).2.2)
                   (case side2 => exact (Kd.N_reads' HO126.out).2.1)
                   rintro e w' ⟨rfl, ⟨nd, rfl⟩⟩
                   refine ⟨_, rfl, ?_⟩
                   refine hK.out _ _ trivial (fun hHeld => ?_)
                   clear hK K
                   refine norm_ (a' := ?_) ?_ ?_
                   rotate_left
                   · show Act.put _ (some 28) _ = _; simp only [Act.put, Ext.sb, Ext.sz, Ext.ss, i64_w, i32_w]; rfl
                   exact norm_ (by first | (simp only [putAll, Act.put, Ext.sb, Ext.sz, Ext.ss]; done) | (simp only [putAll, Act.put, Ext.sb, Ext.sz, Ext.ss]; rfl)) (hJ6_7_9 (.slice Ao56 y124.length co56, v129) _ ⟨(Ext.nV HO118.out), (Ext.nV HO123.out), (Ext.nN HO126.out), (Ext.nN HO130.out), (Ext.nV HO_0.out), (Ext.nB HB.out)⟩)
                 ·
                  skip
                  rintro v125 w54 ⟨h0_, h1_, h2_, h3_, h4_⟩
                  have n0_ : Aside0 (Kd.V (Kd.int .u8) 5 w54 w.heap.size (ok4_6 P0_ w v125) (.slice A0 y114.length c0) y114) := ⟨h0_⟩
                  have n1_ : Aside0 (Kd.V (Kd.int .u8) 5 w54 w.heap.size (ok4_6 P0_ w v125) (.slice A50 y119.length c50) y119) := ⟨h1_⟩
                  have n2_ : Aside0 (Kd.N (Kd.slice 5 (Kd.int .u8)) 24 w54 w.heap.size (ok4_0 P0_ w) v125 y124) := ⟨h2_⟩
                  have n3_ : Aside0 (Kd.V (Kd.int .u8) 5 w54 w.heap.size (ok4_6 P0_ w v125) (.slice A0 l0.length c0) l0) := ⟨h3_⟩
                  have n4_ : Aside0 (Below w.heap.size w w54) := ⟨h4_⟩
                  clear HO_0
                  clear HB
                  clear h0_ h1_ h2_ h3_ h4_
                  have HO118 := n0_
                  have HO123 := n1_
                  have HO126 := n2_
                  have HO_0 := n3_
                  have HB := n4_
                  clear n0_ n1_ n2_ n3_ n4_
                  have hHeld := trivial
                  refine norm_ (a' := ?_) ?_ ?_
                  rotate_left
                  · simp only [putAll, Act.put, Ext.sb, Ext.sz, Ext.ss]; rfl
                  refine one_ (i := 9) (N := some 30) zb4_0 rfl rfl (one_of HT_.out (by kernel_rfl)) (by decide) (fun K hK => ?_)
                  refine Kd.N_lit_step (Kd.slice 5 (Kd.int .u8)) _ 24 ?hg (N' := 30) ?hd (xs := ([l0] : List (List Int))) (inner := [.slice A0 l0.length c0]) (ok := (ok4_6 P0_ w v125)) (okp := (ok4_6 P0_ w v125)) ?hr ?hp (fun _ hk => hk) ((show ∀ k_, w54.heap.size ≤ k_ → (ok4_6 P0_ w v125) k_ from fun k_ hk => ⟨(.inr (Nat.le_trans (below_size (Ext.nB HB.out)) hk)), Kd.fresh' (Kd.N_lt (Ext.nN HO126.out)) k_ hk⟩) _ (Nat.le_refl _)) (Below.refl _ _) (Nat.le_refl _) (by simp) ?_; (case hd => rfl); (case hg => rfl); (case hr => first | (go_simp; done) | (go_simp; rfl)); (case hp => exact (Reps.one (show Kd.FK (Kd.slice 5 (Kd.int .u8)) _ _ l0 [.slice A0 l0.length c0] from (Kd.FK_slice_mk (Kd.V_reads' (Kd.V_mono (e := 0) (base := 0) (ok' := (ok4_6 P0_ w v125)) (HO_0.out) (fun k_ hk => ⟨hk.1, hk.2⟩))).2.1 (Kd.V_F (e := 0) (base := 0) (Kd.V_mono (e := 0) (base := 0) (ok' := (ok4_6 P0_ w v125)) (HO_0.out) (fun k_ hk => ⟨hk.1, hk.2⟩))))) (Reps.none _ _)))
                  intro v129 w55 ho56 hb hg_ hnew_
                  clear hg_ hnew_
                  (first | rw [← Ny128.out] at ho56 | (simp only [Int.reduceToNat] at ho56; rw [← Ny128.out] at ho56))
                  have n0_ := Ext.a (Kd.V_elder' (Ext.nV HO_0.out) (Kd.N_base ho56) hb)
                  have n1_ := Ext.a (Kd.V_elder' (Ext.nV HO118.out) (Kd.N_base ho56) hb)
                  have n2_ := Ext.a (Kd.V_elder' (Ext.nV HO123.out) (Kd.N_base ho56) hb)
                  have n3_ := Ext.a (Kd.N_elder' (Ext.nN HO126.out) (Kd.N_base ho56) hb)
                  have n4_ := Ext.a (Kd.N_lower ho56 (below_size (Ext.nB HB.out)))
                  have n5_ := Ext.a (below_step (Ext.nB HB.out) hb)
                  clear HO_0
                  clear HO118
                  clear HO123
                  clear HO126
                  clear HB
                  have HO_0 := n0_
                  have HO118 := n1_
                  have HO123 := n2_
                  have HO126 := n3_
                  have HO130 := n4_
                  have HB := n5_
                  clear n0_ n1_ n2_ n3_ n4_ n5_
                  clear hb ho56
                  refine hK.out _ _ trivial (fun hHeld => ?_)
                  clear hK K
                  refine norm_ (a' := ?_) ?_ ?_
                  rotate_left
                  · show Act.put _ (some 30) _ = _; simp only [Act.put, Ext.sb, Ext.sz, Ext.ss, i64_w, i32_w]; rfl
                  exact norm_ (by first | (simp only [putAll, Act.put, Ext.sb, Ext.sz, Ext.ss]; done) | (simp only [putAll, Act.put, Ext.sb, Ext.sz, Ext.ss]; rfl)) (hJ6_7_9 (v125, v129) _ ⟨(Ext.nV (Kd.V_mono HO118.out (fun _ hk => ⟨hk.1.1, ⟨hk.1.2, hk.2⟩⟩))), (Ext.nV (Kd.V_mono HO123.out (fun _ hk => ⟨hk.1.1, ⟨hk.1.2, hk.2⟩⟩))), (Ext.nN HO126.out), (Ext.nN HO130.out), (Ext.nV (Kd.V_mono HO_0.out (fun _ hk => ⟨hk.1.1, ⟨hk.1.2, hk.2⟩⟩))), (Ext.nB HB.out)⟩)
                ·
                 skip
                 rintro ⟨v125, v129⟩ w56 ⟨h0_, h1_, h2_, h3_, h4_, h5_⟩
                 have n0_ : Aside0 (Kd.V (Kd.int .u8) 5 w56 w.heap.size (ok4_5 P0_ w v125 v129) (.slice A0 y114.length c0) y114) := ⟨h0_⟩
                 have n1_ : Aside0 (Kd.V (Kd.int .u8) 5 w56 w.heap.size (ok4_5 P0_ w v125 v129) (.slice A50 y119.length c50) y119) := ⟨h1_⟩
                 have n2_ : Aside0 (Kd.N (Kd.slice 5 (Kd.int .u8)) 24 w56 w.heap.size (ok4_6 P0_ w v129) v125 y124) := ⟨h2_⟩
                 have n3_ : Aside0 (Kd.N (Kd.slice 5 (Kd.int .u8)) 24 w56 w.heap.size (ok4_6 P0_ w v125) v129 y128) := ⟨h3_⟩
                 have n4_ : Aside0 (Kd.V (Kd.int .u8) 5 w56 w.heap.size (ok4_5 P0_ w v125 v129) (.slice A0 l0.length c0) l0) := ⟨h4_⟩
                 have n5_ : Aside0 (Below w.heap.size w w56) := ⟨h5_⟩
                 clear HO_0
                 clear HB
                 clear h0_ h1_ h2_ h3_ h4_ h5_
                 have HO118 := n0_
                 have HO123 := n1_
                 have HO126 := n2_
                 have HO130 := n3_
                 have HO_0 := n4_
                 have HB := n5_
                 clear n0_ n1_ n2_ n3_ n4_ n5_
                 have hHeld := trivial
                 obtain ⟨Ao57, co57, eo57⟩ := Kd.N_slice HO130.out
                 (first | subst eo57 | (injection eo57 with f1_ f2_ f3_; have f4_ := f1_.symm; have f5_ := f3_.symm; clear f1_ f2_ f3_; subst f4_; subst f5_))
                 refine norm_ (a' := ?_) ?_ ?_
                 rotate_left
                 · simp only [putAll, Act.put, Ext.sb, Ext.sz, Ext.ss]; rfl
                 refine one_ (i := 10) (N := some 31) zb4_21 rfl rfl (one_of HT_.out (by kernel_rfl)) (by decide) (fun K hK => ?_)
                 refine goes_ Try.func9 (by kernel_rfl) rfl #[.slice Ao57 y128.length co57] (by rfl) rfl rfl (by (try simp only [List.map_toArray, List.map_cons, List.map_nil]); first | done | rfl | (simp only [List.length_drop, List.length_take]; rfl)) ?_
                 with_reducible refine (sum_Sum.calls kj7 _ _ y128 t131 _ ?side1 ?side2 A19.out).mono ?_
                 (case side1 => exact Ext.nC (Kd.N_reads' HO130.out).2.2)
                 (case side2 => exact (Kd.N_reads' HO130.out).2.1)
                 rintro e w' ⟨rfl, ⟨nd, rfl⟩⟩
                 refine ⟨_, rfl, ?_⟩
                 refine hK.out _ _ trivial (fun hHeld => ?_)
                 clear hK K
                 refine norm_ (a' := ?_) ?_ ?_
                 rotate_left
                 · show Act.put _ (some 31) _ = _; simp only [Act.put, Ext.sb, Ext.sz, Ext.ss, i64_w, i32_w]; rfl
                 refine pure_ (i := 11) (N := some 32) (v := ?_) (a' := ?_) zb4_22 rfl rfl (any_of HT_.out (by kernel_rfl)) (fun _ _ _ h => h) (Or.inl ⟨by rfl, ?_⟩) ?_ ?_
                 rotate_left
                 · intro w'; go_simp; with_reducible rfl
                 rotate_left
                 · simp only [Act.put, Ext.sb, Ext.sz, Ext.ss, i64_w, i32_w]; rfl
                 refine pure_ (i := 12) (N := some 33) (v := ?_) (a' := ?_) zb4_23 rfl rfl (any_of HT_.out (by kernel_rfl)) (fun _ _ _ h => h) (Or.inl ⟨by rfl, ?_⟩) ?_ ?_
                 rotate_left
                 · intro w'; go_simp; with_reducible rfl
                 rotate_left
                 · simp only [Act.put, Ext.sb, Ext.sz, Ext.ss, i64_w, i32_w]; rfl
                 refine pure_ (i := 13) (N := some 34) (v := ?_) (a' := ?_) zb4_24 rfl rfl (any_of HT_.out (by kernel_rfl)) (fun _ _ _ h => h) (Or.inl ⟨by rfl, ?_⟩) ?_ ?_
                 rotate_left
                 · intro w'; go_simp; with_reducible rfl
                 rotate_left
                 · simp only [Act.put, Ext.sb, Ext.sz, Ext.ss, i64_w, i32_w]; rfl
                 refine pure_ (i := 16) (N := some 37) (v := ?_) (a' := ?_) zb4_9 rfl rfl (any_of HT_.out (by kernel_rfl)) (fun _ _ _ h => h) (Or.inl ⟨by rfl, ?_⟩) ?_ ?_
                 rotate_left
                 · intro w'; go_simp; with_reducible rfl
                 rotate_left
                 · simp only [Act.put, Ext.sb, Ext.sz, Ext.ss, i64_w, i32_w]; rfl
                 exact norm_ (by first | (simp only [putAll, Act.put, Ext.sb, Ext.sz, Ext.ss]; done) | (simp only [putAll, Act.put, Ext.sb, Ext.sz, Ext.ss]; rfl)) (hJ6_7_9_10 (v125, .slice Ao57 y128.length co57) _ ⟨(Ext.nV HO118.out), (Ext.nV HO123.out), (Ext.nN HO126.out), (Ext.nN HO130.out), (Ext.nV HO_0.out), (Ext.nB HB.out)⟩)
               ·
                skip
                rintro ⟨v125, v129⟩ w57 ⟨h0_, h1_, h2_, h3_, h4_, h5_⟩
                have n0_ : Aside0 (Kd.V (Kd.int .u8) 5 w57 w.heap.size (ok4_5 P0_ w v125 v129) (.slice A0 y114.length c0) y114) := ⟨h0_⟩
                have n1_ : Aside0 (Kd.V (Kd.int .u8) 5 w57 w.heap.size (ok4_5 P0_ w v125 v129) (.slice A50 y119.length c50) y119) := ⟨h1_⟩
                have n2_ : Aside0 (Kd.N (Kd.slice 5 (Kd.int .u8)) 24 w57 w.heap.size (ok4_6 P0_ w v129) v125 y124) := ⟨h2_⟩
                have n3_ : Aside0 (Kd.N (Kd.slice 5 (Kd.int .u8)) 24 w57 w.heap.size (ok4_6 P0_ w v125) v129 y128) := ⟨h3_⟩
                have n4_ : Aside0 (Kd.V (Kd.int .u8) 5 w57 w.heap.size (ok4_5 P0_ w v125 v129) (.slice A0 l0.length c0) l0) := ⟨h4_⟩
                have n5_ : Aside0 (Below w.heap.size w w57) := ⟨h5_⟩
                clear HO_0
                clear HB
                clear h0_ h1_ h2_ h3_ h4_ h5_
                have HO118 := n0_
                have HO123 := n1_
                have HO126 := n2_
                have HO130 := n3_
                have HO_0 := n4_
                have HB := n5_
                clear n0_ n1_ n2_ n3_ n4_ n5_
                have hHeld := trivial
                refine norm_ (a' := ?_) ?_ ?_
                rotate_left
                · simp only [putAll, Act.put, Ext.sb, Ext.sz, Ext.ss]; rfl
                refine two_ (i := 14) (j := 17) (Ni := some 35) (Nj := some 38) zb4_10 zb4_11 rfl rfl rfl rfl (two_of HT_.out (by kernel_rfl)) (by decide) (by decide) (fun K hK => ?_) (fun K hK => ?_)
                ·
                 skip
                 refine Kd.N_lit_step (Kd.slice 5 (Kd.int .u8)) _ 24 ?hg (N' := 35) ?hd (xs := ([l0, []] : List (List Int))) (inner := [.slice A0 l0.length c0, .slice none 0 0]) (ok := (ok4_5 P0_ w v125 v129)) (okp := (ok4_5 P0_ w v125 v129)) ?hr ?hp (fun _ hk => hk) ((show ∀ k_, w57.heap.size ≤ k_ → (ok4_5 P0_ w v125 v129) k_ from fun k_ hk => ⟨(.inr (Nat.le_trans (below_size (Ext.nB HB.out)) hk)), Kd.fresh' (Kd.N_lt (Ext.nN HO126.out)) k_ hk, Kd.fresh' (Kd.N_lt (Ext.nN HO130.out)) k_ hk⟩) _ (Nat.le_refl _)) (Below.refl _ _) (Nat.le_refl _) (by simp) ?_; (case hd => rfl); (case hg => rfl); (case hr => first | (go_simp; done) | (go_simp; rfl)); (case hp => exact (Reps.one (show Kd.FK (Kd.slice 5 (Kd.int .u8)) _ _ l0 [.slice A0 l0.length c0] from (Kd.FK_slice_mk (Kd.V_reads' (Kd.V_mono (e := 0) (base := 0) (ok' := (ok4_5 P0_ w v125 v129)) (HO_0.out) (fun k_ hk => ⟨hk.1, ⟨hk.2.1, hk.2.2⟩⟩))).2.1 (Kd.V_F (e := 0) (base := 0) (Kd.V_mono (e := 0) (base := 0) (ok' := (ok4_5 P0_ w v125 v129)) (HO_0.out) (fun k_ hk => ⟨hk.1, ⟨hk.2.1, hk.2.2⟩⟩))))) (Reps.one (show Kd.FK (Kd.slice 5 (Kd.int .u8)) _ _ [] [.slice none 0 0] from (Kd.FK_slice_mk (Nat.le_refl _) (Kd.F_nil _ _ _))) (Reps.none _ _))))
                 intro v133 w58 ho59 hb hg_ hnew_
                 clear hg_ hnew_
                 (first | rw [← Ny132.out] at ho59 | (simp only [Int.reduceToNat] at ho59; rw [← Ny132.out] at ho59))
                 have n0_ := Ext.a (Kd.V_elder' (Ext.nV HO_0.out) (Kd.N_base ho59) hb)
                 have n1_ := Ext.a (Kd.V_elder' (Ext.nV HO118.out) (Kd.N_base ho59) hb)
                 have n2_ := Ext.a (Kd.V_elder' (Ext.nV HO123.out) (Kd.N_base ho59) hb)
                 have n3_ := Ext.a (Kd.N_elder' (Ext.nN HO126.out) (Kd.N_base ho59) hb)
                 have n4_ := Ext.a (Kd.N_elder' (Ext.nN HO130.out) (Kd.N_base ho59) hb)
                 have n5_ := Ext.a (Kd.N_lower ho59 (below_size (Ext.nB HB.out)))
                 have n6_ := Ext.a (below_step (Ext.nB HB.out) hb)
                 clear HO_0
                 clear HO118
                 clear HO123
                 clear HO126
                 clear HO130
                 clear HB
                 have HO_0 := n0_
                 have HO118 := n1_
                 have HO123 := n2_
                 have HO126 := n3_
                 have HO130 := n4_
                 have HO134 := n5_
                 have HB := n6_
                 clear n0_ n1_ n2_ n3_ n4_ n5_ n6_
                 clear hb ho59
                 refine hK.out _ _ trivial (fun hHeld => ?_)
                 clear hK K
                 refine norm_ (a' := ?_) ?_ ?_
                 rotate_left
                 · show Act.put _ (some 35) _ = _; simp only [Act.put, Ext.sb, Ext.sz, Ext.ss, i64_w, i32_w]; rfl
                 exact norm_ (by first | (simp only [putAll, Act.put, Ext.sb, Ext.sz, Ext.ss]; done) | (simp only [putAll, Act.put, Ext.sb, Ext.sz, Ext.ss]; rfl)) (hJ6_7_9_10_14 (v125, v129, v133) _ ⟨(Ext.nV (Kd.V_mono HO118.out (fun _ hk => ⟨hk.1.1, ⟨hk.1.2.1, ⟨hk.1.2.2, hk.2⟩⟩⟩))), (Ext.nV (Kd.V_mono HO123.out (fun _ hk => ⟨hk.1.1, ⟨hk.1.2.1, ⟨hk.1.2.2, hk.2⟩⟩⟩))), (Ext.nN (Kd.N_mono HO126.out (fun _ hk => ⟨hk.1.1, ⟨hk.1.2, hk.2⟩⟩))), (Ext.nN (Kd.N_mono HO130.out (fun _ hk => ⟨hk.1.1, ⟨hk.1.2, hk.2⟩⟩))), (Ext.nN HO134.out), (Ext.nV (Kd.V_mono HO_0.out (fun _ hk => ⟨hk.1.1, ⟨hk.1.2.1, ⟨hk.1.2.2, hk.2⟩⟩⟩))), (Ext.nB HB.out)⟩)
                ·
                 skip
                 refine Kd.N_lit_step (Kd.slice 5 (Kd.int .u8)) _ 24 ?hg (N' := 38) ?hd (xs := ([l0] : List (List Int))) (inner := [.slice A0 l0.length c0]) (ok := (ok4_5 P0_ w v125 v129)) (okp := (ok4_5 P0_ w v125 v129)) ?hr ?hp (fun _ hk => hk) ((show ∀ k_, w57.heap.size ≤ k_ → (ok4_5 P0_ w v125 v129) k_ from fun k_ hk => ⟨(.inr (Nat.le_trans (below_size (Ext.nB HB.out)) hk)), Kd.fresh' (Kd.N_lt (Ext.nN HO126.out)) k_ hk, Kd.fresh' (Kd.N_lt (Ext.nN HO130.out)) k_ hk⟩) _ (Nat.le_refl _)) (Below.refl _ _) (Nat.le_refl _) (by simp) ?_; (case hd => rfl); (case hg => rfl); (case hr => first | (go_simp; done) | (go_simp; rfl)); (case hp => exact (Reps.one (show Kd.FK (Kd.slice 5 (Kd.int .u8)) _ _ l0 [.slice A0 l0.length c0] from (Kd.FK_slice_mk (Kd.V_reads' (Kd.V_mono (e := 0) (base := 0) (ok' := (ok4_5 P0_ w v125 v129)) (HO_0.out) (fun k_ hk => ⟨hk.1, ⟨hk.2.1, hk.2.2⟩⟩))).2.1 (Kd.V_F (e := 0) (base := 0) (Kd.V_mono (e := 0) (base := 0) (ok' := (ok4_5 P0_ w v125 v129)) (HO_0.out) (fun k_ hk => ⟨hk.1, ⟨hk.2.1, hk.2.2⟩⟩))))) (Reps.none _ _)))
                 intro v137 w58 ho59 hb hg_ hnew_
                 clear hg_ hnew_
                 (first | rw [← Ny136.out] at ho59 | (simp only [Int.reduceToNat] at ho59; rw [← Ny136.out] at ho59))
                 have n0_ := Ext.a (Kd.V_elder' (Ext.nV HO_0.out) (Kd.N_base ho59) hb)
                 have n1_ := Ext.a (Kd.V_elder' (Ext.nV HO118.out) (Kd.N_base ho59) hb)
                 have n2_ := Ext.a (Kd.V_elder' (Ext.nV HO123.out) (Kd.N_base ho59) hb)
                 have n3_ := Ext.a (Kd.N_elder' (Ext.nN HO126.out) (Kd.N_base ho59) hb)
                 have n4_ := Ext.a (Kd.N_elder' (Ext.nN HO130.out) (Kd.N_base ho59) hb)
                 have n5_ := Ext.a (Kd.N_lower ho59 (below_size (Ext.nB HB.out)))
                 have n6_ := Ext.a (below_step (Ext.nB HB.out) hb)
                 clear HO_0
                 clear HO118
                 clear HO123
                 clear HO126
                 clear HO130
                 clear HB
                 have HO_0 := n0_
                 have HO118 := n1_
                 have HO123 := n2_
                 have HO126 := n3_
                 have HO130 := n4_
                 have HO138 := n5_
                 have HB := n6_
                 clear n0_ n1_ n2_ n3_ n4_ n5_ n6_
                 clear hb ho59
                 refine hK.out _ _ trivial (fun hHeld => ?_)
                 clear hK K
                 refine norm_ (a' := ?_) ?_ ?_
                 rotate_left
                 · show Act.put _ (some 38) _ = _; simp only [Act.put, Ext.sb, Ext.sz, Ext.ss, i64_w, i32_w]; rfl
                 exact norm_ (by first | (simp only [putAll, Act.put, Ext.sb, Ext.sz, Ext.ss]; done) | (simp only [putAll, Act.put, Ext.sb, Ext.sz, Ext.ss]; rfl)) (hJ6_7_9_10_17 (v125, v129, v137) _ ⟨(Ext.nV (Kd.V_mono HO118.out (fun _ hk => ⟨hk.1.1, ⟨hk.1.2.1, ⟨hk.1.2.2, hk.2⟩⟩⟩))), (Ext.nV (Kd.V_mono HO123.out (fun _ hk => ⟨hk.1.1, ⟨hk.1.2.1, ⟨hk.1.2.2, hk.2⟩⟩⟩))), (Ext.nN (Kd.N_mono HO126.out (fun _ hk => ⟨hk.1.1, ⟨hk.1.2, hk.2⟩⟩))), (Ext.nN (Kd.N_mono HO130.out (fun _ hk => ⟨hk.1.1, ⟨hk.1.2, hk.2⟩⟩))), (Ext.nN HO138.out), (Ext.nV (Kd.V_mono HO_0.out (fun _ hk => ⟨hk.1.1, ⟨hk.1.2.1, ⟨hk.1.2.2, hk.2⟩⟩⟩))), (Ext.nB HB.out)⟩)
              ·
               skip
               rintro ⟨v125, v129, v137⟩ w59 ⟨h0_, h1_, h2_, h3_, h4_, h5_, h6_⟩
               have n0_ : Aside0 (Kd.V (Kd.int .u8) 5 w59 w.heap.size (ok4_4 P0_ w v125 v129 v137) (.slice A0 y114.length c0) y114) := ⟨h0_⟩
               have n1_ : Aside0 (Kd.V (Kd.int .u8) 5 w59 w.heap.size (ok4_4 P0_ w v125 v129 v137) (.slice A50 y119.length c50) y119) := ⟨h1_⟩
               have n2_ : Aside0 (Kd.N (Kd.slice 5 (Kd.int .u8)) 24 w59 w.heap.size (ok4_5 P0_ w v129 v137) v125 y124) := ⟨h2_⟩
               have n3_ : Aside0 (Kd.N (Kd.slice 5 (Kd.int .u8)) 24 w59 w.heap.size (ok4_5 P0_ w v125 v137) v129 y128) := ⟨h3_⟩
               have n4_ : Aside0 (Kd.N (Kd.slice 5 (Kd.int .u8)) 24 w59 w.heap.size (ok4_5 P0_ w v125 v129) v137 y136) := ⟨h4_⟩
               have n5_ : Aside0 (Kd.V (Kd.int .u8) 5 w59 w.heap.size (ok4_4 P0_ w v125 v129 v137) (.slice A0 l0.length c0) l0) := ⟨h5_⟩
               have n6_ : Aside0 (Below w.heap.size w w59) := ⟨h6_⟩
               clear HO_0
               clear HB
               clear h0_ h1_ h2_ h3_ h4_ h5_ h6_
               have HO118 := n0_
               have HO123 := n1_
               have HO126 := n2_
               have HO130 := n3_
               have HO138 := n4_
               have HO_0 := n5_
               have HB := n6_
               clear n0_ n1_ n2_ n3_ n4_ n5_ n6_
               have hHeld := trivial
               refine norm_ (a' := ?_) ?_ ?_
               rotate_left
               · simp only [putAll, Act.put, Ext.sb, Ext.sz, Ext.ss]; rfl
               refine one_ (i := 14) (N := some 35) zb4_3 rfl rfl (one_of HT_.out (by kernel_rfl)) (by decide) (fun K hK => ?_)
               refine Kd.N_lit_step (Kd.slice 5 (Kd.int .u8)) _ 24 ?hg (N' := 35) ?hd (xs := ([l0, []] : List (List Int))) (inner := [.slice A0 l0.length c0, .slice none 0 0]) (ok := (ok4_4 P0_ w v125 v129 v137)) (okp := (ok4_4 P0_ w v125 v129 v137)) ?hr ?hp (fun _ hk => hk) ((show ∀ k_, w59.heap.size ≤ k_ → (ok4_4 P0_ w v125 v129 v137) k_ from fun k_ hk => ⟨(.inr (Nat.le_trans (below_size (Ext.nB HB.out)) hk)), Kd.fresh' (Kd.N_lt (Ext.nN HO126.out)) k_ hk, Kd.fresh' (Kd.N_lt (Ext.nN HO130.out)) k_ hk, Kd.fresh' (Kd.N_lt (Ext.nN HO138.out)) k_ hk⟩) _ (Nat.le_refl _)) (Below.refl _ _) (Nat.le_refl _) (by simp) ?_; (case hd => rfl); (case hg => rfl); (case hr => first | (go_simp; done) | (go_simp; rfl)); (case hp => exact (Reps.one (show Kd.FK (Kd.slice 5 (Kd.int .u8)) _ _ l0 [.slice A0 l0.length c0] from (Kd.FK_slice_mk (Kd.V_reads' (Kd.V_mono (e := 0) (base := 0) (ok' := (ok4_4 P0_ w v125 v129 v137)) (HO_0.out) (fun k_ hk => ⟨hk.1, ⟨hk.2.1, ⟨hk.2.2.1, hk.2.2.2⟩⟩⟩))).2.1 (Kd.V_F (e := 0) (base := 0) (Kd.V_mono (e := 0) (base := 0) (ok' := (ok4_4 P0_ w v125 v129 v137)) (HO_0.out) (fun k_ hk => ⟨hk.1, ⟨hk.2.1, ⟨hk.2.2.1, hk.2.2.2⟩⟩⟩))))) (Reps.one (show Kd.FK (Kd.slice 5 (Kd.int .u8)) _ _ [] [.slice none 0 0] from (Kd.FK_slice_mk (Nat.le_refl _) (Kd.F_nil _ _ _))) (Reps.none _ _))))
               intro v133 w60 ho61 hb hg_ hnew_
               clear hg_ hnew_
               (first | rw [← Ny132.out] at ho61 | (simp only [Int.reduceToNat] at ho61; rw [← Ny132.out] at ho61))
               have n0_ := Ext.a (Kd.V_elder' (Ext.nV HO_0.out) (Kd.N_base ho61) hb)
               have n1_ := Ext.a (Kd.V_elder' (Ext.nV HO118.out) (Kd.N_base ho61) hb)
               have n2_ := Ext.a (Kd.V_elder' (Ext.nV HO123.out) (Kd.N_base ho61) hb)
               have n3_ := Ext.a (Kd.N_elder' (Ext.nN HO126.out) (Kd.N_base ho61) hb)
               have n4_ := Ext.a (Kd.N_elder' (Ext.nN HO130.out) (Kd.N_base ho61) hb)
               have n5_ := Ext.a (Kd.N_elder' (Ext.nN HO138.out) (Kd.N_base ho61) hb)
               have n6_ := Ext.a (Kd.N_lower ho61 (below_size (Ext.nB HB.out)))
               have n7_ := Ext.a (below_step (Ext.nB HB.out) hb)
               clear HO_0
               clear HO118
               clear HO123
               clear HO126
               clear HO130
               clear HO138
               clear HB
               have HO_0 := n0_
               have HO118 := n1_
               have HO123 := n2_
               have HO126 := n3_
               have HO130 := n4_
               have HO138 := n5_
               have HO134 := n6_
               have HB := n7_
               clear n0_ n1_ n2_ n3_ n4_ n5_ n6_ n7_
               clear hb ho61
               refine hK.out _ _ trivial (fun hHeld => ?_)
               clear hK K
               refine norm_ (a' := ?_) ?_ ?_
               rotate_left
               · show Act.put _ (some 35) _ = _; simp only [Act.put, Ext.sb, Ext.sz, Ext.ss, i64_w, i32_w]; rfl
               exact norm_ (by first | (simp only [putAll, Act.put, Ext.sb, Ext.sz, Ext.ss]; done) | (simp only [putAll, Act.put, Ext.sb, Ext.sz, Ext.ss]; rfl)) (hJ6_7_9_10_14_17 (v125, v129, v133, v137) _ ⟨(Ext.nV (Kd.V_mono HO118.out (fun _ hk => ⟨hk.1.1, ⟨hk.1.2.1, ⟨hk.1.2.2.1, ⟨hk.2, hk.1.2.2.2⟩⟩⟩⟩))), (Ext.nV (Kd.V_mono HO123.out (fun _ hk => ⟨hk.1.1, ⟨hk.1.2.1, ⟨hk.1.2.2.1, ⟨hk.2, hk.1.2.2.2⟩⟩⟩⟩))), (Ext.nN (Kd.N_mono HO126.out (fun _ hk => ⟨hk.1.1, ⟨hk.1.2.1, ⟨hk.2, hk.1.2.2⟩⟩⟩))), (Ext.nN (Kd.N_mono HO130.out (fun _ hk => ⟨hk.1.1, ⟨hk.1.2.1, ⟨hk.2, hk.1.2.2⟩⟩⟩))), (Ext.nN HO134.out), (Ext.nN (Kd.N_mono HO138.out (fun _ hk => ⟨hk.1.1, ⟨hk.1.2.1, ⟨hk.1.2.2, hk.2⟩⟩⟩))), (Ext.nV (Kd.V_mono HO_0.out (fun _ hk => ⟨hk.1.1, ⟨hk.1.2.1, ⟨hk.1.2.2.1, ⟨hk.2, hk.1.2.2.2⟩⟩⟩⟩))), (Ext.nB HB.out)⟩)
             ·
              skip
              rintro ⟨v125, v129, v133⟩ w59 ⟨h0_, h1_, h2_, h3_, h4_, h5_, h6_⟩
              have n0_ : Aside0 (Kd.V (Kd.int .u8) 5 w59 w.heap.size (ok4_4 P0_ w v125 v129 v133) (.slice A0 y114.length c0) y114) := ⟨h0_⟩
              have n1_ : Aside0 (Kd.V (Kd.int .u8) 5 w59 w.heap.size (ok4_4 P0_ w v125 v129 v133) (.slice A50 y119.length c50) y119) := ⟨h1_⟩
              have n2_ : Aside0 (Kd.N (Kd.slice 5 (Kd.int .u8)) 24 w59 w.heap.size (ok4_5 P0_ w v129 v133) v125 y124) := ⟨h2_⟩
              have n3_ : Aside0 (Kd.N (Kd.slice 5 (Kd.int .u8)) 24 w59 w.heap.size (ok4_5 P0_ w v125 v133) v129 y128) := ⟨h3_⟩
              have n4_ : Aside0 (Kd.N (Kd.slice 5 (Kd.int .u8)) 24 w59 w.heap.size (ok4_5 P0_ w v125 v129) v133 y132) := ⟨h4_⟩
              have n5_ : Aside0 (Kd.V (Kd.int .u8) 5 w59 w.heap.size (ok4_4 P0_ w v125 v129 v133) (.slice A0 l0.length c0) l0) := ⟨h5_⟩
              have n6_ : Aside0 (Below w.heap.size w w59) := ⟨h6_⟩
              clear HO_0
              clear HB
              clear h0_ h1_ h2_ h3_ h4_ h5_ h6_
              have HO118 := n0_
              have HO123 := n1_
              have HO126 := n2_
              have HO130 := n3_
              have HO134 := n4_
              have HO_0 := n5_
              have HB := n6_
              clear n0_ n1_ n2_ n3_ n4_ n5_ n6_
              have hHeld := trivial
              obtain ⟨Ao60, co60, eo60⟩ := Kd.N_slice HO134.out
              (first | subst eo60 | (injection eo60 with f1_ f2_ f3_; have f4_ := f1_.symm; have f5_ := f3_.symm; clear f1_ f2_ f3_; subst f4_; subst f5_))
              refine norm_ (a' := ?_) ?_ ?_
              rotate_left
              · simp only [putAll, Act.put, Ext.sb, Ext.sz, Ext.ss]; rfl
              refine two_ (i := 15) (j := 17) (Ni := some 36) (Nj := some 38) zb4_7 zb4_3 rfl rfl rfl rfl (two_of HT_.out (by kernel_rfl)) (by decide) (by decide) (fun K hK => ?_) (fun K hK => ?_)
              ·
               skip
               refine goes_ Try.func9 (by kernel_rfl) rfl #[.slice Ao60 y132.length co60] (by rfl) rfl rfl (by (try simp only [List.map_toArray, List.map_cons, List.map_nil]); first | done | rfl | (simp only [List.length_drop, List.length_take]; rfl)) ?_
               with_reducible refine (sum_Sum.calls kj7 _ _ y132 t135 _ ?side1 ?side2 A21.out).mono ?_
               (case side1 => exact Ext.nC (Kd.N_reads' HO134.out).2.2)
               (case side2 => exact (Kd.N_reads' HO134.out).2.1)
               rintro e w' ⟨rfl, ⟨nd, rfl⟩⟩
               refine ⟨_, rfl, ?_⟩
               refine hK.out _ _ trivial (fun hHeld => ?_)
               clear hK K
               refine norm_ (a' := ?_) ?_ ?_
               rotate_left
               · show Act.put _ (some 36) _ = _; simp only [Act.put, Ext.sb, Ext.sz, Ext.ss, i64_w, i32_w]; rfl
               exact norm_ (by first | (simp only [putAll, Act.put, Ext.sb, Ext.sz, Ext.ss]; done) | (simp only [putAll, Act.put, Ext.sb, Ext.sz, Ext.ss]; rfl)) (hJ6_7_9_10_14_15 (v125, v129, .slice Ao60 y132.length co60) _ ⟨(Ext.nV HO118.out), (Ext.nV HO123.out), (Ext.nN HO126.out), (Ext.nN HO130.out), (Ext.nN HO134.out), (Ext.nV HO_0.out), (Ext.nB HB.out)⟩)
              ·
               skip
               refine Kd.N_lit_step (Kd.slice 5 (Kd.int .u8)) _ 24 ?hg (N' := 38) ?hd (xs := ([l0] : List (List Int))) (inner := [.slice A0 l0.length c0]) (ok := (ok4_4 P0_ w v125 v129 (.slice Ao60 y132.length co60))) (okp := (ok4_4 P0_ w v125 v129 (.slice Ao60 y132.length co60))) ?hr ?hp (fun _ hk => hk) ((show ∀ k_, w59.heap.size ≤ k_ → (ok4_4 P0_ w v125 v129 (.slice Ao60 y132.length co60)) k_ from fun k_ hk => ⟨(.inr (Nat.le_trans (below_size (Ext.nB HB.out)) hk)), Kd.fresh' (Kd.N_lt (Ext.nN HO126.out)) k_ hk, Kd.fresh' (Kd.N_lt (Ext.nN HO130.out)) k_ hk, Kd.fresh' (Kd.N_lt (Ext.nN HO134.out)) k_ hk⟩) _ (Nat.le_refl _)) (Below.refl _ _) (Nat.le_refl _) (by simp) ?_; (case hd => rfl); (case hg => rfl); (case hr => first | (go_simp; done) | (go_simp; rfl)); (case hp => exact (Reps.one (show Kd.FK (Kd.slice 5 (Kd.int .u8)) _ _ l0 [.slice A0 l0.length c0] from (Kd.FK_slice_mk (Kd.V_reads' (Kd.V_mono (e := 0) (base := 0) (ok' := (ok4_4 P0_ w v125 v129 (.slice Ao60 y132.length co60))) (HO_0.out) (fun k_ hk => ⟨hk.1, ⟨hk.2.1, ⟨hk.2.2.1, hk.2.2.2⟩⟩⟩))).2.1 (Kd.V_F (e := 0) (base := 0) (Kd.V_mono (e := 0) (base := 0) (ok' := (ok4_4 P0_ w v125 v129 (.slice Ao60 y132.length co60))) (HO_0.out) (fun k_ hk => ⟨hk.1, ⟨hk.2.1, ⟨hk.2.2.1, hk.2.2.2⟩⟩⟩))))) (Reps.none _ _)))
               intro v137 w60 ho61 hb hg_ hnew_
               clear hg_ hnew_
               (first | rw [← Ny136.out] at ho61 | (simp only [Int.reduceToNat] at ho61; rw [← Ny136.out] at ho61))
               have n0_ := Ext.a (Kd.V_elder' (Ext.nV HO_0.out) (Kd.N_base ho61) hb)
               have n1_ := Ext.a (Kd.V_elder' (Ext.nV HO118.out) (Kd.N_base ho61) hb)
               have n2_ := Ext.a (Kd.V_elder' (Ext.nV HO123.out) (Kd.N_base ho61) hb)
               have n3_ := Ext.a (Kd.N_elder' (Ext.nN HO126.out) (Kd.N_base ho61) hb)
               have n4_ := Ext.a (Kd.N_elder' (Ext.nN HO130.out) (Kd.N_base ho61) hb)
               have n5_ := Ext.a (Kd.N_elder' (Ext.nN HO134.out) (Kd.N_base ho61) hb)
               have n6_ := Ext.a (Kd.N_lower ho61 (below_size (Ext.nB HB.out)))
               have n7_ := Ext.a (below_step (Ext.nB HB.out) hb)
               clear HO_0
               clear HO118
               clear HO123
               clear HO126
               clear HO130
               clear HO134
               clear HB
               have HO_0 := n0_
               have HO118 := n1_
               have HO123 := n2_
               have HO126 := n3_
               have HO130 := n4_
               have HO134 := n5_
               have HO138 := n6_
               have HB := n7_
               clear n0_ n1_ n2_ n3_ n4_ n5_ n6_ n7_
               clear hb ho61
               refine hK.out _ _ trivial (fun hHeld => ?_)
               clear hK K
               refine norm_ (a' := ?_) ?_ ?_
               rotate_left
               · show Act.put _ (some 38) _ = _; simp only [Act.put, Ext.sb, Ext.sz, Ext.ss, i64_w, i32_w]; rfl
               exact norm_ (by first | (simp only [putAll, Act.put, Ext.sb, Ext.sz, Ext.ss]; done) | (simp only [putAll, Act.put, Ext.sb, Ext.sz, Ext.ss]; rfl)) (hJ6_7_9_10_14_17 (v125, v129, (.slice Ao60 y132.length co60), v137) _ ⟨(Ext.nV (Kd.V_mono HO118.out (fun _ hk => ⟨hk.1.1, ⟨hk.1.2.1, ⟨hk.1.2.2.1, ⟨hk.1.2.2.2, hk.2⟩⟩⟩⟩))), (Ext.nV (Kd.V_mono HO123.out (fun _ hk => ⟨hk.1.1, ⟨hk.1.2.1, ⟨hk.1.2.2.1, ⟨hk.1.2.2.2, hk.2⟩⟩⟩⟩))), (Ext.nN (Kd.N_mono HO126.out (fun _ hk => ⟨hk.1.1, ⟨hk.1.2.1, ⟨hk.1.2.2, hk.2⟩⟩⟩))), (Ext.nN (Kd.N_mono HO130.out (fun _ hk => ⟨hk.1.1, ⟨hk.1.2.1, ⟨hk.1.2.2, hk.2⟩⟩⟩))), (Ext.nN (Kd.N_mono HO134.out (fun _ hk => ⟨hk.1.1, ⟨hk.1.2.1, ⟨hk.1.2.2, hk.2⟩⟩⟩))), (Ext.nN HO138.out), (Ext.nV (Kd.V_mono HO_0.out (fun _ hk => ⟨hk.1.1, ⟨hk.1.2.1, ⟨hk.1.2.2.1, ⟨hk.1.2.2.2, hk.2⟩⟩⟩⟩))), (Ext.nB HB.out)⟩)
            ·
             skip
             rintro ⟨v125, v129, v133, v137⟩ w61 ⟨h0_, h1_, h2_, h3_, h4_, h5_, h6_, h7_⟩
             have n0_ : Aside0 (Kd.V (Kd.int .u8) 5 w61 w.heap.size (ok4_3 P0_ w v125 v129 v133 v137) (.slice A0 y114.length c0) y114) := ⟨h0_⟩
             have n1_ : Aside0 (Kd.V (Kd.int .u8) 5 w61 w.heap.size (ok4_3 P0_ w v125 v129 v133 v137) (.slice A50 y119.length c50) y119) := ⟨h1_⟩
             have n2_ : Aside0 (Kd.N (Kd.slice 5 (Kd.int .u8)) 24 w61 w.heap.size (ok4_4 P0_ w v129 v133 v137) v125 y124) := ⟨h2_⟩
             have n3_ : Aside0 (Kd.N (Kd.slice 5 (Kd.int .u8)) 24 w61 w.heap.size (ok4_4 P0_ w v125 v133 v137) v129 y128) := ⟨h3_⟩
             have n4_ : Aside0 (Kd.N (Kd.slice 5 (Kd.int .u8)) 24 w61 w.heap.size (ok4_4 P0_ w v125 v129 v137) v133 y132) := ⟨h4_⟩
             have n5_ : Aside0 (Kd.N (Kd.slice 5 (Kd.int .u8)) 24 w61 w.heap.size (ok4_4 P0_ w v125 v129 v133) v137 y136) := ⟨h5_⟩
             have n6_ : Aside0 (Kd.V (Kd.int .u8) 5 w61 w.heap.size (ok4_3 P0_ w v125 v129 v133 v137) (.slice A0 l0.length c0) l0) := ⟨h6_⟩
             have n7_ : Aside0 (Below w.heap.size w w61) := ⟨h7_⟩
             clear HO_0
             clear HB
             clear h0_ h1_ h2_ h3_ h4_ h5_ h6_ h7_
             have HO118 := n0_
             have HO123 := n1_
             have HO126 := n2_
             have HO130 := n3_
             have HO134 := n4_
             have HO138 := n5_
             have HO_0 := n6_
             have HB := n7_
             clear n0_ n1_ n2_ n3_ n4_ n5_ n6_ n7_
             have hHeld := trivial
             obtain ⟨Ao62, co62, eo62⟩ := Kd.N_slice HO134.out
             (first | subst eo62 | (injection eo62 with f1_ f2_ f3_; have f4_ := f1_.symm; have f5_ := f3_.symm; clear f1_ f2_ f3_; subst f4_; subst f5_))
             refine norm_ (a' := ?_) ?_ ?_
             rotate_left
             · simp only [putAll, Act.put, Ext.sb, Ext.sz, Ext.ss]; rfl
             refine one_ (i := 15) (N := some 36) zb4_2 rfl rfl (one_of HT_.out (by kernel_rfl)) (by decide) (fun K hK => ?_)
             refine goes_ Try.func9 (by kernel_rfl) rfl #[.slice Ao62 y132.length co62] (by rfl) rfl rfl (by (try simp only [List.map_toArray, List.map_cons, List.map_nil]); first | done | rfl | (simp only [List.length_drop, List.length_take]; rfl)) ?_
             with_reducible refine (sum_Sum.calls kj7 _ _ y132 t135 _ ?side1 ?side2 A21.out).mono ?_
             (case side1 => exact Ext.nC (Kd.N_reads' HO134.out).2.2)
             (case side2 => exact (Kd.N_reads' HO134.out).2.1)
             rintro e w' ⟨rfl, ⟨nd, rfl⟩⟩
             refine ⟨_, rfl, ?_⟩
             refine hK.out _ _ trivial (fun hHeld => ?_)
             clear hK K
             refine norm_ (a' := ?_) ?_ ?_
             rotate_left
             · show Act.put _ (some 36) _ = _; simp only [Act.put, Ext.sb, Ext.sz, Ext.ss, i64_w, i32_w]; rfl
             exact norm_ (by first | (simp only [putAll, Act.put, Ext.sb, Ext.sz, Ext.ss]; done) | (simp only [putAll, Act.put, Ext.sb, Ext.sz, Ext.ss]; rfl)) (hJ6_7_9_10_14_15_17 (v125, v129, .slice Ao62 y132.length co62, v137) _ ⟨(Ext.nV HO118.out), (Ext.nV HO123.out), (Ext.nN HO126.out), (Ext.nN HO130.out), (Ext.nN HO134.out), (Ext.nN HO138.out), (Ext.nV HO_0.out), (Ext.nB HB.out)⟩)
           ·
            skip
            rintro ⟨v125, v129, v133⟩ w60 ⟨h0_, h1_, h2_, h3_, h4_, h5_, h6_⟩
            have n0_ : Aside0 (Kd.V (Kd.int .u8) 5 w60 w.heap.size (ok4_4 P0_ w v125 v129 v133) (.slice A0 y114.length c0) y114) := ⟨h0_⟩
            have n1_ : Aside0 (Kd.V (Kd.int .u8) 5 w60 w.heap.size (ok4_4 P0_ w v125 v129 v133) (.slice A50 y119.length c50) y119) := ⟨h1_⟩
            have n2_ : Aside0 (Kd.N (Kd.slice 5 (Kd.int .u8)) 24 w60 w.heap.size (ok4_5 P0_ w v129 v133) v125 y124) := ⟨h2_⟩
            have n3_ : Aside0 (Kd.N (Kd.slice 5 (Kd.int .u8)) 24 w60 w.heap.size (ok4_5 P0_ w v125 v133) v129 y128) := ⟨h3_⟩
            have n4_ : Aside0 (Kd.N (Kd.slice 5 (Kd.int .u8)) 24 w60 w.heap.size (ok4_5 P0_ w v125 v129) v133 y132) := ⟨h4_⟩
            have n5_ : Aside0 (Kd.V (Kd.int .u8) 5 w60 w.heap.size (ok4_4 P0_ w v125 v129 v133) (.slice A0 l0.length c0) l0) := ⟨h5_⟩
            have n6_ : Aside0 (Below w.heap.size w w60) := ⟨h6_⟩
            clear HO_0
            clear HB
            clear h0_ h1_ h2_ h3_ h4_ h5_ h6_
            have HO118 := n0_
            have HO123 := n1_
            have HO126 := n2_
            have HO130 := n3_
            have HO134 := n4_
            have HO_0 := n5_
            have HB := n6_
            clear n0_ n1_ n2_ n3_ n4_ n5_ n6_
            have hHeld := trivial
            refine norm_ (a' := ?_) ?_ ?_
            rotate_left
            · simp only [putAll, Act.put, Ext.sb, Ext.sz, Ext.ss]; rfl
            refine one_ (i := 17) (N := some 38) zb4_2 rfl rfl (one_of HT_.out (by kernel_rfl)) (by decide) (fun K hK => ?_)
            refine Kd.N_lit_step (Kd.slice 5 (Kd.int .u8)) _ 24 ?hg (N' := 38) ?hd (xs := ([l0] : List (List Int))) (inner := [.slice A0 l0.length c0]) (ok := (ok4_4 P0_ w v125 v129 v133)) (okp := (ok4_4 P0_ w v125 v129 v133)) ?hr ?hp (fun _ hk => hk) ((show ∀ k_, w60.heap.size ≤ k_ → (ok4_4 P0_ w v125 v129 v133) k_ from fun k_ hk => ⟨(.inr (Nat.le_trans (below_size (Ext.nB HB.out)) hk)), Kd.fresh' (Kd.N_lt (Ext.nN HO126.out)) k_ hk, Kd.fresh' (Kd.N_lt (Ext.nN HO130.out)) k_ hk, Kd.fresh' (Kd.N_lt (Ext.nN HO134.out)) k_ hk⟩) _ (Nat.le_refl _)) (Below.refl _ _) (Nat.le_refl _) (by simp) ?_; (case hd => rfl); (case hg => rfl); (case hr => first | (go_simp; done) | (go_simp; rfl)); (case hp => exact (Reps.one (show Kd.FK (Kd.slice 5 (Kd.int .u8)) _ _ l0 [.slice A0 l0.length c0] from (Kd.FK_slice_mk (Kd.V_reads' (Kd.V_mono (e := 0) (base := 0) (ok' := (ok4_4 P0_ w v125 v129 v133)) (HO_0.out) (fun k_ hk => ⟨hk.1, ⟨hk.2.1, ⟨hk.2.2.1, hk.2.2.2⟩⟩⟩))).2.1 (Kd.V_F (e := 0) (base := 0) (Kd.V_mono (e := 0) (base := 0) (ok' := (ok4_4 P0_ w v125 v129 v133)) (HO_0.out) (fun k_ hk => ⟨hk.1, ⟨hk.2.1, ⟨hk.2.2.1, hk.2.2.2⟩⟩⟩))))) (Reps.none _ _)))
            intro v137 w61 ho62 hb hg_ hnew_
            clear hg_ hnew_
            (first | rw [← Ny136.out] at ho62 | (simp only [Int.reduceToNat] at ho62; rw [← Ny136.out] at ho62))
            have n0_ := Ext.a (Kd.V_elder' (Ext.nV HO_0.out) (Kd.N_base ho62) hb)
            have n1_ := Ext.a (Kd.V_elder' (Ext.nV HO118.out) (Kd.N_base ho62) hb)
            have n2_ := Ext.a (Kd.V_elder' (Ext.nV HO123.out) (Kd.N_base ho62) hb)
            have n3_ := Ext.a (Kd.N_elder' (Ext.nN HO126.out) (Kd.N_base ho62) hb)
            have n4_ := Ext.a (Kd.N_elder' (Ext.nN HO130.out) (Kd.N_base ho62) hb)
            have n5_ := Ext.a (Kd.N_elder' (Ext.nN HO134.out) (Kd.N_base ho62) hb)
            have n6_ := Ext.a (Kd.N_lower ho62 (below_size (Ext.nB HB.out)))
            have n7_ := Ext.a (below_step (Ext.nB HB.out) hb)
            clear HO_0
            clear HO118
            clear HO123
            clear HO126
            clear HO130
            clear HO134
            clear HB
            have HO_0 := n0_
            have HO118 := n1_
            have HO123 := n2_
            have HO126 := n3_
            have HO130 := n4_
            have HO134 := n5_
            have HO138 := n6_
            have HB := n7_
            clear n0_ n1_ n2_ n3_ n4_ n5_ n6_ n7_
            clear hb ho62
            refine hK.out _ _ trivial (fun hHeld => ?_)
            clear hK K
            refine norm_ (a' := ?_) ?_ ?_
            rotate_left
            · show Act.put _ (some 38) _ = _; simp only [Act.put, Ext.sb, Ext.sz, Ext.ss, i64_w, i32_w]; rfl
            exact norm_ (by first | (simp only [putAll, Act.put, Ext.sb, Ext.sz, Ext.ss]; done) | (simp only [putAll, Act.put, Ext.sb, Ext.sz, Ext.ss]; rfl)) (hJ6_7_9_10_14_15_17 (v125, v129, v133, v137) _ ⟨(Ext.nV (Kd.V_mono HO118.out (fun _ hk => ⟨hk.1.1, ⟨hk.1.2.1, ⟨hk.1.2.2.1, ⟨hk.1.2.2.2, hk.2⟩⟩⟩⟩))), (Ext.nV (Kd.V_mono HO123.out (fun _ hk => ⟨hk.1.1, ⟨hk.1.2.1, ⟨hk.1.2.2.1, ⟨hk.1.2.2.2, hk.2⟩⟩⟩⟩))), (Ext.nN (Kd.N_mono HO126.out (fun _ hk => ⟨hk.1.1, ⟨hk.1.2.1, ⟨hk.1.2.2, hk.2⟩⟩⟩))), (Ext.nN (Kd.N_mono HO130.out (fun _ hk => ⟨hk.1.1, ⟨hk.1.2.1, ⟨hk.1.2.2, hk.2⟩⟩⟩))), (Ext.nN (Kd.N_mono HO134.out (fun _ hk => ⟨hk.1.1, ⟨hk.1.2.1, ⟨hk.1.2.2, hk.2⟩⟩⟩))), (Ext.nN HO138.out), (Ext.nV (Kd.V_mono HO_0.out (fun _ hk => ⟨hk.1.1, ⟨hk.1.2.1, ⟨hk.1.2.2.1, ⟨hk.1.2.2.2, hk.2⟩⟩⟩⟩))), (Ext.nB HB.out)⟩)
          rintro ⟨v125, v129, v133, v137⟩ w62 ⟨h0_, h1_, h2_, h3_, h4_, h5_, h6_, h7_⟩
          have n0_ : Aside0 (Kd.V (Kd.int .u8) 5 w62 w.heap.size (ok4_3 P0_ w v125 v129 v133 v137) (.slice A0 y114.length c0) y114) := ⟨h0_⟩
          have n1_ : Aside0 (Kd.V (Kd.int .u8) 5 w62 w.heap.size (ok4_3 P0_ w v125 v129 v133 v137) (.slice A50 y119.length c50) y119) := ⟨h1_⟩
          have n2_ : Aside0 (Kd.N (Kd.slice 5 (Kd.int .u8)) 24 w62 w.heap.size (ok4_4 P0_ w v129 v133 v137) v125 y124) := ⟨h2_⟩
          have n3_ : Aside0 (Kd.N (Kd.slice 5 (Kd.int .u8)) 24 w62 w.heap.size (ok4_4 P0_ w v125 v133 v137) v129 y128) := ⟨h3_⟩
          have n4_ : Aside0 (Kd.N (Kd.slice 5 (Kd.int .u8)) 24 w62 w.heap.size (ok4_4 P0_ w v125 v129 v137) v133 y132) := ⟨h4_⟩
          have n5_ : Aside0 (Kd.N (Kd.slice 5 (Kd.int .u8)) 24 w62 w.heap.size (ok4_4 P0_ w v125 v129 v133) v137 y136) := ⟨h5_⟩
          have n6_ : Aside0 (Kd.V (Kd.int .u8) 5 w62 w.heap.size (ok4_3 P0_ w v125 v129 v133 v137) (.slice A0 l0.length c0) l0) := ⟨h6_⟩
          have n7_ : Aside0 (Below w.heap.size w w62) := ⟨h7_⟩
          clear HO_0
          clear HB
          clear h0_ h1_ h2_ h3_ h4_ h5_ h6_ h7_
          have HO118 := n0_
          have HO123 := n1_
          have HO126 := n2_
          have HO130 := n3_
          have HO134 := n4_
          have HO138 := n5_
          have HO_0 := n6_
          have HB := n7_
          clear n0_ n1_ n2_ n3_ n4_ n5_ n6_ n7_
          have hHeld := trivial
          obtain ⟨Ao63, co63, eo63⟩ := Kd.N_slice HO138.out
          (first | subst eo63 | (injection eo63 with f1_ f2_ f3_; have f4_ := f1_.symm; have f5_ := f3_.symm; clear f1_ f2_ f3_; subst f4_; subst f5_))
          refine norm_ (a' := ?_) ?_ ?_
          rotate_left
          · simp only [putAll, Act.put, Ext.sb, Ext.sz, Ext.ss]; rfl
          refine one_ (i := 18) (N := some 39) zb4_25 rfl rfl (one_of HT_.out (by kernel_rfl)) (by decide) (fun K hK => ?_)
          refine goes_ Try.func9 (by kernel_rfl) rfl #[.slice Ao63 y136.length co63] (by rfl) rfl rfl (by (try simp only [List.map_toArray, List.map_cons, List.map_nil]); first | done | rfl | (simp only [List.length_drop, List.length_take]; rfl)) ?_
          with_reducible refine (sum_Sum.calls kj7 _ _ y136 t139 _ ?side1 ?side2 A22.out).mono ?_
          (case side1 => exact Ext.nC (Kd.N_reads' HO138.out).2.2)
          (case side2 => exact (Kd.N_reads' HO138.out).2.1)
          rintro e w' ⟨rfl, ⟨nd, rfl⟩⟩
          refine ⟨_, rfl, ?_⟩
          refine hK.out _ _ trivial (fun hHeld => ?_)
          clear hK K
          refine norm_ (a' := ?_) ?_ ?_
          rotate_left
          · show Act.put _ (some 39) _ = _; simp only [Act.put, Ext.sb, Ext.sz, Ext.ss, i64_w, i32_w]; rfl
          refine pure_ (i := 19) (N := some 40) (v := ?_) (a' := ?_) zb4_26 rfl rfl (any_of HT_.out (by kernel_rfl)) (fun _ _ _ h => h) (Or.inl ⟨by rfl, ?_⟩) ?_ ?_
          rotate_left
          · intro w'; go_simp; with_reducible rfl
          rotate_left
          · simp only [Act.put, Ext.sb, Ext.sz, Ext.ss, i64_w, i32_w]; rfl
          refine pure_ (i := 20) (N := some 41) (v := ?_) (a' := ?_) zb4_27 rfl rfl (any_of HT_.out (by kernel_rfl)) (fun _ _ _ h => h) (Or.inl ⟨by rfl, ?_⟩) ?_ ?_
          rotate_left
          · intro w'; go_simp; with_reducible rfl
          rotate_left
          · simp only [Act.put, Ext.sb, Ext.sz, Ext.ss, i64_w, i32_w]; rfl
          refine pure_ (i := 21) (N := some 42) (v := ?_) (a' := ?_) zb4_28 rfl rfl (any_of HT_.out (by kernel_rfl)) (fun _ _ _ h => h) (Or.inl ⟨by rfl, ?_⟩) ?_ ?_
          rotate_left
          · intro w'; go_simp; with_reducible rfl
          rotate_left
          · simp only [Act.put, Ext.sb, Ext.sz, Ext.ss, i64_w, i32_w]; rfl
          refine pure_ (i := 22) (N := some 43) (v := undef) (a' := ?_) zb4_29 rfl rfl (any_of HT_.out (by kernel_rfl)) (fun _ _ _ h => h) (Or.inr ⟨by rfl, rfl⟩) ?_ ?_
          rotate_left
          · simp only [Act.put, Ext.sb, Ext.sz, Ext.ss, i64_w, i32_w]; rfl
          refine pure_ (i := 23) (N := some 44) (v := undef) (a' := ?_) zb4_30 rfl rfl (any_of HT_.out (by kernel_rfl)) (fun _ _ _ h => h) (Or.inr ⟨by rfl, rfl⟩) ?_ ?_
          rotate_left
          · simp only [Act.put, Ext.sb, Ext.sz, Ext.ss, i64_w, i32_w]; rfl
          refine pure_ (i := 24) (N := some 45) (v := undef) (a' := ?_) zb4_31 rfl rfl (any_of HT_.out (by kernel_rfl)) (fun _ _ _ h => h) (Or.inr ⟨by rfl, rfl⟩) ?_ ?_
          rotate_left
          · simp only [Act.put, Ext.sb, Ext.sz, Ext.ss, i64_w, i32_w]; rfl
          refine pure_ (i := 25) (N := some 46) (v := undef) (a' := ?_) zb4_32 rfl rfl (any_of HT_.out (by kernel_rfl)) (fun _ _ _ h => h) (Or.inr ⟨by rfl, rfl⟩) ?_ ?_
          rotate_left
          · simp only [Act.put, Ext.sb, Ext.sz, Ext.ss, i64_w, i32_w]; rfl
          refine pure_ (i := 26) (N := some 47) (v := undef) (a' := ?_) zb4_33 rfl rfl (any_of HT_.out (by kernel_rfl)) (fun _ _ _ h => h) (Or.inr ⟨by rfl, rfl⟩) ?_ ?_
          rotate_left
          · simp only [Act.put, Ext.sb, Ext.sz, Ext.ss, i64_w, i32_w]; rfl
          refine pure_ (i := 27) (N := some 48) (v := undef) (a' := ?_) zb4_34 rfl rfl (any_of HT_.out (by kernel_rfl)) (fun _ _ _ h => h) (Or.inr ⟨by rfl, rfl⟩) ?_ ?_
          rotate_left
          · simp only [Act.put, Ext.sb, Ext.sz, Ext.ss, i64_w, i32_w]; rfl
          refine pure_ (i := 28) (N := some 49) (v := undef) (a' := ?_) zb4_41 rfl rfl (any_of HT_.out (by kernel_rfl)) (fun _ _ _ h => h) (Or.inr ⟨by rfl, rfl⟩) ?_ ?_
          rotate_left
          · simp only [Act.put, Ext.sb, Ext.sz, Ext.ss, i64_w, i32_w]; rfl
          refine pure_ (i := 29) (N := some 50) (v := undef) (a' := ?_) zb4_44 rfl rfl (any_of HT_.out (by kernel_rfl)) (fun _ _ _ h => h) (Or.inr ⟨by rfl, rfl⟩) ?_ ?_
          rotate_left
          · simp only [Act.put, Ext.sb, Ext.sz, Ext.ss, i64_w, i32_w]; rfl
          refine pure_ (i := 30) (N := some 51) (v := undef) (a' := ?_) zb4_12 rfl rfl (any_of HT_.out (by kernel_rfl)) (fun _ _ _ h => h) (Or.inr ⟨by rfl, rfl⟩) ?_ ?_
          rotate_left
          · simp only [Act.put, Ext.sb, Ext.sz, Ext.ss, i64_w, i32_w]; rfl
          refine pure_ (i := 31) (N := some 52) (v := undef) (a' := ?_) zb4_8 rfl rfl (any_of HT_.out (by kernel_rfl)) (fun _ _ _ h => h) (Or.inr ⟨by rfl, rfl⟩) ?_ ?_
          rotate_left
          · simp only [Act.put, Ext.sb, Ext.sz, Ext.ss, i64_w, i32_w]; rfl
          refine pure_ (i := 32) (N := some 53) (v := undef) (a' := ?_) zb4_36 rfl rfl (any_of HT_.out (by kernel_rfl)) (fun _ _ _ h => h) (Or.inr ⟨by rfl, rfl⟩) ?_ ?_
          rotate_left
          · simp only [Act.put, Ext.sb, Ext.sz, Ext.ss, i64_w, i32_w]; rfl
          refine pure_ (i := 33) (N := some 54) (v := undef) (a' := ?_) zb4_37 rfl rfl (any_of HT_.out (by kernel_rfl)) (fun _ _ _ h => h) (Or.inr ⟨by rfl, rfl⟩) ?_ ?_
          rotate_left
          · simp only [Act.put, Ext.sb, Ext.sz, Ext.ss, i64_w, i32_w]; rfl
          refine pure_ (i := 34) (N := some 55) (v := ?_) (a' := ?_) zb4_38 rfl rfl (any_of HT_.out (by kernel_rfl)) (fun _ _ _ h => h) (Or.inl ⟨by rfl, ?_⟩) ?_ ?_
          rotate_left
          · intro w'; go_simp; with_reducible rfl
          rotate_left
          · simp only [Act.put, Ext.sb, Ext.sz, Ext.ss, i64_w, i32_w]; rfl
          refine pure_ (i := 35) (N := some 4) (v := ?_) (a' := ?_) zb4_39 rfl rfl (any_of HT_.out (by kernel_rfl)) (fun _ _ _ h => h) (Or.inl ⟨by rfl, ?_⟩) ?_ ?_
          rotate_left
          · intro w'; go_simp; with_reducible rfl
          rotate_left
          · simp only [Act.put, Ext.sb, Ext.sz, Ext.ss, i64_w, i32_w]; rfl
          refine done_ (done_of HT_.out (by kernel_rfl)) ?_
          try go_wp2
          go_ret
          exact ⟨by first | rfl | (simp [errW_none, errW_some] <;> rfl) | (simp only [← hji13]; first | rfl | (simp [errW_none, errW_some] <;> rfl)) | (simp [*, errW_none, errW_some] <;> rfl), by repeat (first | (with_reducible first | exact HB.out | apply Ext.ba | apply Ext.bn | apply Ext.bd) | exact HB.out | exact .refl _ _)⟩
        ·
         rw [if_neg c20] at H
         have c20b0 : (t127 == t131) = false := beq_eq_false_iff_ne.mpr c20
         have c20b1 : (t127 != t131) = true := bne_iff_ne.mpr c20
         obtain rfl := Option.some.inj H
         try go_wp2
         have n0_ := Ext.a (Kd.V_drew HO_0.out)
         have n1_ := Ext.a (below_drew1 HB.out)
         clear HO_0
         clear HB
         have HO_0 := n0_
         have HB := n1_
         clear n0_ n1_
         have q65 : ((ji13) : Int) ≤ ((l0.length : Int) : Int) := of_decide_eq_true (by first | (with_reducible assumption) | assumption)
         obtain ⟨i065, hi065, _, hsz65, _⟩ := info_parts info5
         have hroom65 : l0.length ≤ c0 := (Kd.V_reads' HO_0.out).2.1
         have hC65 : Kd.F (Kd.int .u8) _ _ A0 l0.length l0 := (Kd.V_at (base := w.heap.size) HO_0.out).2.2
         have hcut65 := cut_to (P := Try.prog) 24 5 .i64 Try.underlying24 hi065 A0 l0.length c0 (ji13) (of_decide_eq_true (by first | (with_reducible assumption) | assumption)) q65 hroom65
         have hr65 := Kd.F_take (m := ((ji13) : Int).toNat) hC65 (by omega)
         have hy65 : y114.length = ((ji13) : Int).toNat := (by rw [Ny114.out, List.length_take]; omega)
         rw [← Ny114.out] at hr65
         rw [← hy65] at hcut65
         have HO118 := Ext.a (show Kd.V (Kd.int .u8) 5 _ w.heap.size _ (.slice A0 y114.length c0) y114 from Kd.V_mk (by omega) hr65)
         have HC118 := Ext.a (show y114.length ≤ c0 from by omega)
         clear hr65 hC65 hroom65 hi065 hsz65
         have KY65 := Aside0.mk hy65
         clear hy65
         replace q65 := eq_true q65
         have q66 : ((ji13) : Int) ≤ ((l0.length : Int) : Int) := of_decide_eq_true (by first | (with_reducible assumption) | assumption)
         obtain ⟨i066, hi066, _, hsz66, _⟩ := info_parts info5
         have hroom66 : l0.length ≤ c0 := (Kd.V_reads' HO_0.out).2.1
         have hC66 : Kd.F (Kd.int .u8) _ _ A0 l0.length l0 := (Kd.V_at (base := w.heap.size) HO_0.out).2.2
         have q066 : (0 : Int) ≤ ((ji13) : Int) := of_decide_eq_true (by first | (with_reducible assumption) | assumption)
         have hcut66 := cut_from (P := Try.prog) 24 5 .i64 Try.underlying24 hi066 1 hsz66 A0 l0.length c0 (ji13) q066 q66
         have hr66 := Kd.F_cut (m := ((ji13) : Int).toNat) (c := c0) hC66 (by omega) hroom66
         obtain ⟨A66, hA66⟩ : ∃ A1, A1 = (if c0 = ((ji13) : Int).toNat then A0 else (A0 : Option Addr).map (·.add (((ji13) : Int).toNat * 1))) := ⟨_, rfl⟩
         obtain ⟨c66, hc66⟩ : ∃ c1, c1 = c0 - ((ji13) : Int).toNat := ⟨_, rfl⟩
         have hy66 : y119.length = l0.length - ((ji13) : Int).toNat := (by rw [Ny119.out, List.length_drop] <;> omega)
         rw [show (l0).drop ((ji13) : Int).toNat = y119 from Ny119.out.symm] at hr66
         replace hr66 : Kd.F (Kd.int .u8) _ _ A66 y119.length y119 := (by rw [hA66]; exact hr66)
         rw [← hy66, ← hA66, ← hc66] at hcut66
         have HO123 := Ext.a (show Kd.V (Kd.int .u8) 5 _ w.heap.size _ (.slice A66 y119.length c66) y119 from Kd.V_mk (by rw [hy66, hc66]; exact Nat.sub_le_sub_right hroom66 _) hr66)
         have HC123 := Ext.a (show y119.length ≤ c66 from by rw [hy66, hc66]; exact Nat.sub_le_sub_right hroom66 _)
         clear hr66 hC66 hroom66 hi066 hsz66 hc66
         have KY66 := Aside0.mk hy66
         have KA66 := Aside0.mk hA66
         clear hy66 hA66
         replace q66 := eq_true q66
         refine start_ (n := 36) (S := fun w' => True) (ds := []) zb4_13 (by kernel_rfl) rfl rfl trivial (fun hHeld => ?_); refine with_tabW terrierlaw02_SumJoins.tab4 terrierlaw02_SumJoins.bits4 (fun HT_ HW_ => ?_)
         generalize wc.drew = w64 at HO_0 HB HO118 HO123 hHeld ⊢
         refine pure_ (i := 0) (N := some 21) (v := ?_) (a' := ?_) zb4_14 rfl rfl (any_of HT_.out (by kernel_rfl)) (fun _ _ _ h => h) (Or.inl ⟨by rfl, ?_⟩) ?_ ?_
         rotate_left
         · intro w'; go_simp; with_reducible rfl
         rotate_left
         · simp only [Act.put, Ext.sb, Ext.sz, Ext.ss, i64_w, i32_w]; rfl
         refine pure_ (i := 1) (N := some 22) (v := ?_) (a' := ?_) zb4_15 rfl rfl (any_of HT_.out (by kernel_rfl)) (fun _ _ _ h => h) (Or.inl ⟨by rfl, ?_⟩) ?_ ?_
         rotate_left
         · intro w'; go_simp; with_reducible rfl
         rotate_left
         · simp only [Act.put, Ext.sb, Ext.sz, Ext.ss, i64_w, i32_w]; rfl
         refine pure_ (i := 2) (N := some 23) (v := ?_) (a' := ?_) zb4_16 rfl rfl (any_of HT_.out (by kernel_rfl)) (fun _ _ _ h => h) (Or.inl ⟨by rfl, ?_⟩) ?_ ?_
         rotate_left
         · intro w'; go_simp; with_reducible rfl
         rotate_left
         · simp only [Act.put, Ext.sb, Ext.sz, Ext.ss, i64_w, i32_w]; rfl
         refine pure_ (i := 3) (N := some 24) (v := ?_) (a' := ?_) zb4_17 rfl rfl (any_of HT_.out (by kernel_rfl)) (fun _ _ _ h => h) (Or.inl ⟨by rfl, ?_⟩) ?_ ?_
         rotate_left
         · intro w'; go_simp; with_reducible rfl
         rotate_left
         · simp only [Act.put, Ext.sb, Ext.sz, Ext.ss, i64_w, i32_w]; rfl
         refine pure_ (i := 4) (N := some 25) (v := ?_) (a' := ?_) zb4_18 rfl rfl (any_of HT_.out (by kernel_rfl)) (fun _ _ _ h => h) (Or.inl ⟨by rfl, ?_⟩) ?_ ?_
         rotate_left
         · intro w'; go_simp; with_reducible rfl
         rotate_left
         · simp only [Act.put, Ext.sb, Ext.sz, Ext.ss, i64_w, i32_w]; rfl
         refine pure_ (i := 5) (N := some 26) (v := ?_) (a' := ?_) zb4_19 rfl rfl (any_of HT_.out (by kernel_rfl)) (fun _ _ _ h => h) (Or.inl ⟨by rfl, ?_⟩) ?_ ?_
         rotate_left
         · intro w'; go_simp; with_reducible rfl
         rotate_left
         · simp only [Act.put, Ext.sb, Ext.sz, Ext.ss, i64_w, i32_w]; rfl
         refine pure_ (i := 8) (N := some 29) (v := ?_) (a' := ?_) zb4_20 rfl rfl (any_of HT_.out (by kernel_rfl)) (fun _ _ _ h => h) (Or.inl ⟨by rfl, ?_⟩) ?_ ?_
         rotate_left
         · intro w'; go_simp; with_reducible rfl
         rotate_left
         · simp only [Act.put, Ext.sb, Ext.sz, Ext.ss, i64_w, i32_w]; rfl
         refine join_ (σ := Value × Value) 26 zb4_0 (fun s_ => [(27, s_.1), (28, .int .u32 t127), (30, s_.2)]) (fun s_ w' => (Kd.V (Kd.int .u8) 5 w' w.heap.size (ok4_5 P0_ w s_.1 s_.2) (.slice A0 y114.length c0) y114) ∧ (Kd.V (Kd.int .u8) 5 w' w.heap.size (ok4_5 P0_ w s_.1 s_.2) (.slice A66 y119.length c66) y119) ∧ (Kd.N (Kd.slice 5 (Kd.int .u8)) 24 w' w.heap.size (ok4_6 P0_ w s_.2) s_.1 y124) ∧ (Kd.N (Kd.slice 5 (Kd.int .u8)) 24 w' w.heap.size (ok4_6 P0_ w s_.1) s_.2 y128) ∧ (Kd.V (Kd.int .u8) 5 w' w.heap.size (ok4_5 P0_ w s_.1 s_.2) (.slice A0 l0.length c0) l0) ∧ (Below w.heap.size w w')) ?_ ?_
         rotate_left
         ·
          intro hCont
          refine two_ (i := 6) (j := 9) (Ni := some 27) (Nj := some 30) zb4_4 zb4_5 rfl rfl rfl rfl (two_of HT_.out (by kernel_rfl)) (by decide) (by decide) (fun K hK => ?_) (fun K hK => ?_)
          ·
           skip
           refine Kd.N_lit_step (Kd.slice 5 (Kd.int .u8)) _ 24 ?hg (N' := 27) ?hd (xs := ([y114, y119] : List (List Int))) (inner := [.slice A0 y114.length c0, .slice A66 y119.length c66]) (ok := (ok4_0 P0_ w)) (okp := (ok4_0 P0_ w)) ?hr ?hp (fun _ hk => hk) ((show ∀ k_, w64.heap.size ≤ k_ → (ok4_0 P0_ w) k_ from fun k_ hk => (.inr (Nat.le_trans (below_size (Ext.nB HB.out)) hk))) _ (Nat.le_refl _)) (Below.refl _ _) (Nat.le_refl _) (by simp) ?_; (case hd => rfl); (case hg => rfl); (case hr => first | (go_simp; done) | (go_simp; rfl)); (case hp => exact (Reps.one (show Kd.FK (Kd.slice 5 (Kd.int .u8)) _ _ y114 [.slice A0 y114.length c0] from (Kd.FK_slice_mk (Kd.V_reads' (Kd.V_mono (e := 0) (base := 0) (ok' := (ok4_0 P0_ w)) (HO118.out) (fun k_ hk => hk))).2.1 (Kd.V_F (e := 0) (base := 0) (Kd.V_mono (e := 0) (base := 0) (ok' := (ok4_0 P0_ w)) (HO118.out) (fun k_ hk => hk))))) (Reps.one (show Kd.FK (Kd.slice 5 (Kd.int .u8)) _ _ y119 [.slice A66 y119.length c66] from (Kd.FK_slice_mk (Kd.V_reads' (Kd.V_mono (e := 0) (base := 0) (ok' := (ok4_0 P0_ w)) (HO123.out) (fun k_ hk => hk))).2.1 (Kd.V_F (e := 0) (base := 0) (Kd.V_mono (e := 0) (base := 0) (ok' := (ok4_0 P0_ w)) (HO123.out) (fun k_ hk => hk))))) (Reps.none _ _))))
           intro v125 w67 ho68 hb hg_ hnew_
           clear hg_ hnew_
           (first | rw [← Ny124.out] at ho68 | (simp only [Int.reduceToNat] at ho68; rw [← Ny124.out] at ho68))
           have n0_ := Ext.a (Kd.V_elder' (Ext.nV HO_0.out) (Kd.N_base ho68) hb)
           have n1_ := Ext.a (Kd.V_elder' (Ext.nV HO118.out) (Kd.N_base ho68) hb)
           have n2_ := Ext.a (Kd.V_elder' (Ext.nV HO123.out) (Kd.N_base ho68) hb)
           have n3_ := Ext.a (Kd.N_lower ho68 (below_size (Ext.nB HB.out)))
           have n4_ := Ext.a (below_step (Ext.nB HB.out) hb)
           clear HO_0
           clear HO118
           clear HO123
           clear HB
           have HO_0 := n0_
           have HO118 := n1_
           have HO123 := n2_
           have HO126 := n3_
           have HB := n4_
           clear n0_ n1_ n2_ n3_ n4_
           clear hb ho68
           obtain ⟨Ao69, co69, eo69⟩ := Kd.N_slice HO126.out
           (first | subst eo69 | (injection eo69 with f1_ f2_ f3_; have f4_ := f1_.symm; have f5_ := f3_.symm; clear f1_ f2_ f3_; subst f4_; subst f5_))
           refine hK.out _ _ trivial (fun hHeld => ?_)
           clear hK K
           refine norm_ (a' := ?_) ?_ ?_
           rotate_left
           · show Act.put _ (some 27) _ = _; simp only [Act.put, Ext.sb, Ext.sz, Ext.ss, i64_w, i32_w]; rfl
           refine two_ (i := 7) (j := 9) (Ni := some 28) (Nj := some 30) zb4_6 zb4_1 rfl rfl rfl rfl (two_of HT_.out (by kernel_rfl)) (by decide) (by decide) (fun K hK => ?_) (fun K hK => ?_)
           ·
            skip
            refine goes_ Try.func9 (by kernel_rfl) rfl #[.slice Ao69 y124.length co69] (by rfl) rfl rfl (by (try simp only [List.map_toArray, List.map_cons, List.map_nil]); first | done | rfl | (simp only [List.length_drop, List.length_take]; rfl)) ?_
            with_reducible refine (sum_Sum.calls kj7 _ _ y124 t127 _ ?side1 ?side2 A18.out).mono ?_
            (case side1 => exact Ext.nC (Kd.N_reads' HO126.out).2.2)
            (case side2 => exact (Kd.N_reads' HO126.out).2.1)
            rintro e w' ⟨rfl, ⟨nd, rfl⟩⟩
            refine ⟨_, rfl, ?_⟩
            refine hK.out _ _ trivial (fun hHeld => ?_)
            clear hK K
            refine norm_ (a' := ?_) ?_ ?_
            rotate_left
            · show Act.put _ (some 28) _ = _; simp only [Act.put, Ext.sb, Ext.sz, Ext.ss, i64_w, i32_w]; rfl
            refine one_ (i := 9) (N := some 30) zb4_0 rfl rfl (one_of HT_.out (by kernel_rfl)) (by decide) (fun K hK => ?_)
            refine Kd.N_lit_step (Kd.slice 5 (Kd.int .u8)) _ 24 ?hg (N' := 30) ?hd (xs := ([l0] : List (List Int))) (inner := [.slice A0 l0.length c0]) (ok := (ok4_6 P0_ w (.slice Ao69 y124.length co69))) (okp := (ok4_6 P0_ w (.slice Ao69 y124.length co69))) ?hr ?hp (fun _ hk => hk) ((show ∀ k_, w67.heap.size ≤ k_ → (ok4_6 P0_ w (.slice Ao69 y124.length co69)) k_ from fun k_ hk => ⟨(.inr (Nat.le_trans (below_size (Ext.nB HB.out)) hk)), Kd.fresh' (Kd.N_lt (Ext.nN HO126.out)) k_ hk⟩) _ (Nat.le_refl _)) (Below.refl _ _) (Nat.le_refl _) (by simp) ?_; (case hd => rfl); (case hg => rfl); (case hr => first | (go_simp; done) | (go_simp; rfl)); (case hp => exact (Reps.one (show Kd.FK (Kd.slice 5 (Kd.int .u8)) _ _ l0 [.slice A0 l0.length c0] from (Kd.FK_slice_mk (Kd.V_reads' (Kd.V_mono (e := 0) (base := 0) (ok' := (ok4_6 P0_ w (.slice Ao69 y124.length co69))) (HO_0.out) (fun k_ hk => ⟨hk.1, hk.2⟩))).2.1 (Kd.V_F (e := 0) (base := 0) (Kd.V_mono (e := 0) (base := 0) (ok' := (ok4_6 P0_ w (.slice Ao69 y124.length co69))) (HO_0.out) (fun k_ hk => ⟨hk.1, hk.2⟩))))) (Reps.none _ _)))
            intro v129 w70 ho71 hb hg_ hnew_
            clear hg_ hnew_
            (first | rw [← Ny128.out] at ho71 | (simp only [Int.reduceToNat] at ho71; rw [← Ny128.out] at ho71))
            have n0_ := Ext.a (Kd.V_elder' (Ext.nV HO_0.out) (Kd.N_base ho71) hb)
            have n1_ := Ext.a (Kd.V_elder' (Ext.nV HO118.out) (Kd.N_base ho71) hb)
            have n2_ := Ext.a (Kd.V_elder' (Ext.nV HO123.out) (Kd.N_base ho71) hb)
            have n3_ := Ext.a (Kd.N_elder' (Ext.nN HO126.out) (Kd.N_base ho71) hb)
            have n4_ := Ext.a (Kd.N_lower ho71 (below_size (Ext.nB HB.out)))
            have n5_ := Ext.a (below_step (Ext.nB HB.out) hb)
            clear HO_0
            clear HO118
            clear HO123
            clear HO126
            clear HB
            have HO_0 := n0_
            have HO118 := n1_
            have HO123 := n2_
            have HO126 := n3_
            have HO130 := n4_
            have HB := n5_
            clear n0_ n1_ n2_ n3_ n4_ n5_
            clear hb ho71
            refine hK.out _ _ trivial (fun hHeld => ?_)
            clear hK K
            refine norm_ (a' := ?_) ?_ ?_
            rotate_left
            · show Act.put _ (some 30) _ = _; simp only [Act.put, Ext.sb, Ext.sz, Ext.ss, i64_w, i32_w]; rfl
            exact norm_ (by simp only [putAll, Act.put, Ext.sb, Ext.sz, Ext.ss]) (hCont (.slice Ao69 y124.length co69, v129) _ ⟨(Ext.nV (Kd.V_mono HO118.out (fun _ hk => ⟨hk.1.1, ⟨hk.1.2, hk.2⟩⟩))), (Ext.nV (Kd.V_mono HO123.out (fun _ hk => ⟨hk.1.1, ⟨hk.1.2, hk.2⟩⟩))), (Ext.nN HO126.out), (Ext.nN HO130.out), (Ext.nV (Kd.V_mono HO_0.out (fun _ hk => ⟨hk.1.1, ⟨hk.1.2, hk.2⟩⟩))), (Ext.nB HB.out)⟩)
           ·
            skip
            refine Kd.N_lit_step (Kd.slice 5 (Kd.int .u8)) _ 24 ?hg (N' := 30) ?hd (xs := ([l0] : List (List Int))) (inner := [.slice A0 l0.length c0]) (ok := (ok4_6 P0_ w (.slice Ao69 y124.length co69))) (okp := (ok4_6 P0_ w (.slice Ao69 y124.length co69))) ?hr ?hp (fun _ hk => hk) ((show ∀ k_, w67.heap.size ≤ k_ → (ok4_6 P0_ w (.slice Ao69 y124.length co69)) k_ from fun k_ hk => ⟨(.inr (Nat.le_trans (below_size (Ext.nB HB.out)) hk)), Kd.fresh' (Kd.N_lt (Ext.nN HO126.out)) k_ hk⟩) _ (Nat.le_refl _)) (Below.refl _ _) (Nat.le_refl _) (by simp) ?_; (case hd => rfl); (case hg => rfl); (case hr => first | (go_simp; done) | (go_simp; rfl)); (case hp => exact (Reps.one (show Kd.FK (Kd.slice 5 (Kd.int .u8)) _ _ l0 [.slice A0 l0.length c0] from (Kd.FK_slice_mk (Kd.V_reads' (Kd.V_mono (e := 0) (base := 0) (ok' := (ok4_6 P0_ w (.slice Ao69 y124.length co69))) (HO_0.out) (fun k_ hk => ⟨hk.1, hk.2⟩))).2.1 (Kd.V_F (e := 0) (base := 0) (Kd.V_mono (e := 0) (base := 0) (ok' := (ok4_6 P0_ w (.slice Ao69 y124.length co69))) (HO_0.out) (fun k_ hk => ⟨hk.1, hk.2⟩))))) (Reps.none _ _)))
            intro v129 w69 ho70 hb hg_ hnew_
            clear hg_ hnew_
            (first | rw [← Ny128.out] at ho70 | (simp only [Int.reduceToNat] at ho70; rw [← Ny128.out] at ho70))
            have n0_ := Ext.a (Kd.V_elder' (Ext.nV HO_0.out) (Kd.N_base ho70) hb)
            have n1_ := Ext.a (Kd.V_elder' (Ext.nV HO118.out) (Kd.N_base ho70) hb)
            have n2_ := Ext.a (Kd.V_elder' (Ext.nV HO123.out) (Kd.N_base ho70) hb)
            have n3_ := Ext.a (Kd.N_elder' (Ext.nN HO126.out) (Kd.N_base ho70) hb)
            have n4_ := Ext.a (Kd.N_lower ho70 (below_size (Ext.nB HB.out)))
            have n5_ := Ext.a (below_step (Ext.nB HB.out) hb)
            clear HO_0
            clear HO118
            clear HO123
            clear HO126
            clear HB
            have HO_0 := n0_
            have HO118 := n1_
            have HO123 := n2_
            have HO126 := n3_
            have HO130 := n4_
            have HB := n5_
            clear n0_ n1_ n2_ n3_ n4_ n5_
            clear hb ho70
            obtain ⟨Ao71, co71, eo71⟩ := Kd.N_slice HO126.out
            (first | subst eo71 | (injection eo71 with f1_ f2_ f3_; have f4_ := f1_.symm; have f5_ := f3_.symm; clear f1_ f2_ f3_; subst f4_; subst f5_))
            refine hK.out _ _ trivial (fun hHeld => ?_)
            clear hK K
            refine norm_ (a' := ?_) ?_ ?_
            rotate_left
            · show Act.put _ (some 30) _ = _; simp only [Act.put, Ext.sb, Ext.sz, Ext.ss, i64_w, i32_w]; rfl
            refine one_ (i := 7) (N := some 28) zb4_0 rfl rfl (one_of HT_.out (by kernel_rfl)) (by decide) (fun K hK => ?_)
            refine goes_ Try.func9 (by kernel_rfl) rfl #[.slice Ao71 y124.length co71] (by rfl) rfl rfl (by (try simp only [List.map_toArray, List.map_cons, List.map_nil]); first | done | rfl | (simp only [List.length_drop, List.length_take]; rfl)) ?_
            with_reducible refine (sum_Sum.calls kj7 _ _ y124 t127 _ ?side1 ?side2 A18.out).mono ?_
            (case side1 => exact Ext.nC (Kd.N_reads' HO126.out).2.2)
            (case side2 => exact (Kd.N_reads' HO126.out).2.1)
            rintro e w' ⟨rfl, ⟨nd, rfl⟩⟩
            refine ⟨_, rfl, ?_⟩
            refine hK.out _ _ trivial (fun hHeld => ?_)
            clear hK K
            refine norm_ (a' := ?_) ?_ ?_
            rotate_left
            · show Act.put _ (some 28) _ = _; simp only [Act.put, Ext.sb, Ext.sz, Ext.ss, i64_w, i32_w]; rfl
            exact norm_ (by simp only [putAll, Act.put, Ext.sb, Ext.sz, Ext.ss]) (hCont (.slice Ao71 y124.length co71, v129) _ ⟨(Ext.nV (Kd.V_mono HO118.out (fun _ hk => ⟨hk.1.1, ⟨hk.1.2, hk.2⟩⟩))), (Ext.nV (Kd.V_mono HO123.out (fun _ hk => ⟨hk.1.1, ⟨hk.1.2, hk.2⟩⟩))), (Ext.nN HO126.out), (Ext.nN HO130.out), (Ext.nV (Kd.V_mono HO_0.out (fun _ hk => ⟨hk.1.1, ⟨hk.1.2, hk.2⟩⟩))), (Ext.nB HB.out)⟩)
          ·
           skip
           refine Kd.N_lit_step (Kd.slice 5 (Kd.int .u8)) _ 24 ?hg (N' := 30) ?hd (xs := ([l0] : List (List Int))) (inner := [.slice A0 l0.length c0]) (ok := (ok4_0 P0_ w)) (okp := (ok4_0 P0_ w)) ?hr ?hp (fun _ hk => hk) ((show ∀ k_, w64.heap.size ≤ k_ → (ok4_0 P0_ w) k_ from fun k_ hk => (.inr (Nat.le_trans (below_size (Ext.nB HB.out)) hk))) _ (Nat.le_refl _)) (Below.refl _ _) (Nat.le_refl _) (by simp) ?_; (case hd => rfl); (case hg => rfl); (case hr => first | (go_simp; done) | (go_simp; rfl)); (case hp => exact (Reps.one (show Kd.FK (Kd.slice 5 (Kd.int .u8)) _ _ l0 [.slice A0 l0.length c0] from (Kd.FK_slice_mk (Kd.V_reads' (Kd.V_mono (e := 0) (base := 0) (ok' := (ok4_0 P0_ w)) (HO_0.out) (fun k_ hk => hk))).2.1 (Kd.V_F (e := 0) (base := 0) (Kd.V_mono (e := 0) (base := 0) (ok' := (ok4_0 P0_ w)) (HO_0.out) (fun k_ hk => hk))))) (Reps.none _ _)))
           intro v129 w67 ho68 hb hg_ hnew_
           clear hg_ hnew_
           (first | rw [← Ny128.out] at ho68 | (simp only [Int.reduceToNat] at ho68; rw [← Ny128.out] at ho68))
           have n0_ := Ext.a (Kd.V_elder' (Ext.nV HO_0.out) (Kd.N_base ho68) hb)
           have n1_ := Ext.a (Kd.V_elder' (Ext.nV HO118.out) (Kd.N_base ho68) hb)
           have n2_ := Ext.a (Kd.V_elder' (Ext.nV HO123.out) (Kd.N_base ho68) hb)
           have n3_ := Ext.a (Kd.N_lower ho68 (below_size (Ext.nB HB.out)))
           have n4_ := Ext.a (below_step (Ext.nB HB.out) hb)
           clear HO_0
           clear HO118
           clear HO123
           clear HB
           have HO_0 := n0_
           have HO118 := n1_
           have HO123 := n2_
           have HO130 := n3_
           have HB := n4_
           clear n0_ n1_ n2_ n3_ n4_
           clear hb ho68
           refine hK.out _ _ trivial (fun hHeld => ?_)
           clear hK K
           refine norm_ (a' := ?_) ?_ ?_
           rotate_left
           · show Act.put _ (some 30) _ = _; simp only [Act.put, Ext.sb, Ext.sz, Ext.ss, i64_w, i32_w]; rfl
           refine one_ (i := 6) (N := some 27) zb4_1 rfl rfl (one_of HT_.out (by kernel_rfl)) (by decide) (fun K hK => ?_)
           refine Kd.N_lit_step (Kd.slice 5 (Kd.int .u8)) _ 24 ?hg (N' := 27) ?hd (xs := ([y114, y119] : List (List Int))) (inner := [.slice A0 y114.length c0, .slice A66 y119.length c66]) (ok := (ok4_6 P0_ w v129)) (okp := (ok4_6 P0_ w v129)) ?hr ?hp (fun _ hk => hk) ((show ∀ k_, w67.heap.size ≤ k_ → (ok4_6 P0_ w v129) k_ from fun k_ hk => ⟨(.inr (Nat.le_trans (below_size (Ext.nB HB.out)) hk)), Kd.fresh' (Kd.N_lt (Ext.nN HO130.out)) k_ hk⟩) _ (Nat.le_refl _)) (Below.refl _ _) (Nat.le_refl _) (by simp) ?_; (case hd => rfl); (case hg => rfl); (case hr => first | (go_simp; done) | (go_simp; rfl)); (case hp => exact (Reps.one (show Kd.FK (Kd.slice 5 (Kd.int .u8)) _ _ y114 [.slice A0 y114.length c0] from (Kd.FK_slice_mk (Kd.V_reads' (Kd.V_mono (e := 0) (base := 0) (ok' := (ok4_6 P0_ w v129)) (HO118.out) (fun k_ hk => ⟨hk.1, hk.2⟩))).2.1 (Kd.V_F (e := 0) (base := 0) (Kd.V_mono (e := 0) (base := 0) (ok' := (ok4_6 P0_ w v129)) (HO118.out) (fun k_ hk => ⟨hk.1, hk.2⟩))))) (Reps.one (show Kd.FK (Kd.slice 5 (Kd.int .u8)) _ _ y119 [.slice A66 y119.length c66] from (Kd.FK_slice_mk (Kd.V_reads' (Kd.V_mono (e := 0) (base := 0) (ok' := (ok4_6 P0_ w v129)) (HO123.out) (fun k_ hk => ⟨hk.1, hk.2⟩))).2.1 (Kd.V_F (e := 0) (base := 0) (Kd.V_mono (e := 0) (base := 0) (ok' := (ok4_6 P0_ w v129)) (HO123.out) (fun k_ hk => ⟨hk.1, hk.2⟩))))) (Reps.none _ _))))
           intro v125 w69 ho70 hb hg_ hnew_
           clear hg_ hnew_
           (first | rw [← Ny124.out] at ho70 | (simp only [Int.reduceToNat] at ho70; rw [← Ny124.out] at ho70))
           have n0_ := Ext.a (Kd.V_elder' (Ext.nV HO_0.out) (Kd.N_base ho70) hb)
           have n1_ := Ext.a (Kd.V_elder' (Ext.nV HO118.out) (Kd.N_base ho70) hb)
           have n2_ := Ext.a (Kd.V_elder' (Ext.nV HO123.out) (Kd.N_base ho70) hb)
           have n3_ := Ext.a (Kd.N_elder' (Ext.nN HO130.out) (Kd.N_base ho70) hb)
           have n4_ := Ext.a (Kd.N_lower ho70 (below_size (Ext.nB HB.out)))
           have n5_ := Ext.a (below_step (Ext.nB HB.out) hb)
           clear HO_0
           clear HO118
           clear HO123
           clear HO130
           clear HB
           have HO_0 := n0_
           have HO118 := n1_
           have HO123 := n2_
           have HO130 := n3_
           have HO126 := n4_
           have HB := n5_
           clear n0_ n1_ n2_ n3_ n4_ n5_
           clear hb ho70
           obtain ⟨Ao71, co71, eo71⟩ := Kd.N_slice HO126.out
           (first | subst eo71 | (injection eo71 with f1_ f2_ f3_; have f4_ := f1_.symm; have f5_ := f3_.symm; clear f1_ f2_ f3_; subst f4_; subst f5_))
           refine hK.out _ _ trivial (fun hHeld => ?_)
           clear hK K
           refine norm_ (a' := ?_) ?_ ?_
           rotate_left
           · show Act.put _ (some 27) _ = _; simp only [Act.put, Ext.sb, Ext.sz, Ext.ss, i64_w, i32_w]; rfl
           refine one_ (i := 7) (N := some 28) zb4_0 rfl rfl (one_of HT_.out (by kernel_rfl)) (by decide) (fun K hK => ?_)
           refine goes_ Try.func9 (by kernel_rfl) rfl #[.slice Ao71 y124.length co71] (by rfl) rfl rfl (by (try simp only [List.map_toArray, List.map_cons, List.map_nil]); first | done | rfl | (simp only [List.length_drop, List.length_take]; rfl)) ?_
           with_reducible refine (sum_Sum.calls kj7 _ _ y124 t127 _ ?side1 ?side2 A18.out).mono ?_
           (case side1 => exact Ext.nC (Kd.N_reads' HO126.out).2.2)
           (case side2 => exact (Kd.N_reads' HO126.out).2.1)
           rintro e w' ⟨rfl, ⟨nd, rfl⟩⟩
           refine ⟨_, rfl, ?_⟩
           refine hK.out _ _ trivial (fun hHeld => ?_)
           clear hK K
           refine norm_ (a' := ?_) ?_ ?_
           rotate_left
           · show Act.put _ (some 28) _ = _; simp only [Act.put, Ext.sb, Ext.sz, Ext.ss, i64_w, i32_w]; rfl
           exact norm_ (by simp only [putAll, Act.put, Ext.sb, Ext.sz, Ext.ss]) (hCont (.slice Ao71 y124.length co71, v129) _ ⟨(Ext.nV (Kd.V_mono HO118.out (fun _ hk => ⟨hk.1.1, ⟨hk.2, hk.1.2⟩⟩))), (Ext.nV (Kd.V_mono HO123.out (fun _ hk => ⟨hk.1.1, ⟨hk.2, hk.1.2⟩⟩))), (Ext.nN HO126.out), (Ext.nN HO130.out), (Ext.nV (Kd.V_mono HO_0.out (fun _ hk => ⟨hk.1.1, ⟨hk.2, hk.1.2⟩⟩))), (Ext.nB HB.out)⟩)
         rintro ⟨v125, v129⟩ w72 ⟨h0_, h1_, h2_, h3_, h4_, h5_⟩
         have n0_ : Aside0 (Kd.V (Kd.int .u8) 5 w72 w.heap.size (ok4_5 P0_ w v125 v129) (.slice A0 y114.length c0) y114) := ⟨h0_⟩
         have n1_ : Aside0 (Kd.V (Kd.int .u8) 5 w72 w.heap.size (ok4_5 P0_ w v125 v129) (.slice A66 y119.length c66) y119) := ⟨h1_⟩
         have n2_ : Aside0 (Kd.N (Kd.slice 5 (Kd.int .u8)) 24 w72 w.heap.size (ok4_6 P0_ w v129) v125 y124) := ⟨h2_⟩
         have n3_ : Aside0 (Kd.N (Kd.slice 5 (Kd.int .u8)) 24 w72 w.heap.size (ok4_6 P0_ w v125) v129 y128) := ⟨h3_⟩
         have n4_ : Aside0 (Kd.V (Kd.int .u8) 5 w72 w.heap.size (ok4_5 P0_ w v125 v129) (.slice A0 l0.length c0) l0) := ⟨h4_⟩
         have n5_ : Aside0 (Below w.heap.size w w72) := ⟨h5_⟩
         clear HO_0
         clear HB
         clear h0_ h1_ h2_ h3_ h4_ h5_
         have HO118 := n0_
         have HO123 := n1_
         have HO126 := n2_
         have HO130 := n3_
         have HO_0 := n4_
         have HB := n5_
         clear n0_ n1_ n2_ n3_ n4_ n5_
         have hHeld := trivial
         obtain ⟨Ao73, co73, eo73⟩ := Kd.N_slice HO130.out
         (first | subst eo73 | (injection eo73 with f1_ f2_ f3_; have f4_ := f1_.symm; have f5_ := f3_.symm; clear f1_ f2_ f3_; subst f4_; subst f5_))
         refine norm_ (a' := ?_) ?_ ?_
         rotate_left
         · simp only [putAll, Act.put, Ext.sb, Ext.sz, Ext.ss]; rfl
         refine one_ (i := 10) (N := some 31) zb4_21 rfl rfl (one_of HT_.out (by kernel_rfl)) (by decide) (fun K hK => ?_)
         refine goes_ Try.func9 (by kernel_rfl) rfl #[.slice Ao73 y128.length co73] (by rfl) rfl rfl (by (try simp only [List.map_toArray, List.map_cons, List.map_nil]); first | done | rfl | (simp only [List.length_drop, List.length_take]; rfl)) ?_
         with_reducible refine (sum_Sum.calls kj7 _ _ y128 t131 _ ?side1 ?side2 A19.out).mono ?_
         (case side1 => exact Ext.nC (Kd.N_reads' HO130.out).2.2)
         (case side2 => exact (Kd.N_reads' HO130.out).2.1)
         rintro e w' ⟨rfl, ⟨nd, rfl⟩⟩
         refine ⟨_, rfl, ?_⟩
         refine hK.out _ _ trivial (fun hHeld => ?_)
         clear hK K
         refine norm_ (a' := ?_) ?_ ?_
         rotate_left
         · show Act.put _ (some 31) _ = _; simp only [Act.put, Ext.sb, Ext.sz, Ext.ss, i64_w, i32_w]; rfl
         refine pure_ (i := 11) (N := some 32) (v := ?_) (a' := ?_) zb4_22 rfl rfl (any_of HT_.out (by kernel_rfl)) (fun _ _ _ h => h) (Or.inl ⟨by rfl, ?_⟩) ?_ ?_
         rotate_left
         · intro w'; go_simp; with_reducible rfl
         rotate_left
         · simp only [Act.put, Ext.sb, Ext.sz, Ext.ss, i64_w, i32_w]; rfl
         refine pure_ (i := 12) (N := some 33) (v := ?_) (a' := ?_) zb4_23 rfl rfl (any_of HT_.out (by kernel_rfl)) (fun _ _ _ h => h) (Or.inl ⟨by rfl, ?_⟩) ?_ ?_
         rotate_left
         · intro w'; go_simp; with_reducible rfl
         rotate_left
         · simp only [Act.put, Ext.sb, Ext.sz, Ext.ss, i64_w, i32_w]; rfl
         refine pure_ (i := 13) (N := some 34) (v := undef) (a' := ?_) zb4_24 rfl rfl (any_of HT_.out (by kernel_rfl)) (fun _ _ _ h => h) (Or.inr ⟨by rfl, rfl⟩) ?_ ?_
         rotate_left
         · simp only [Act.put, Ext.sb, Ext.sz, Ext.ss, i64_w, i32_w]; rfl
         refine pure_ (i := 14) (N := some 35) (v := undef) (a' := ?_) #[true, true, true, true, true, true, true, true, true, true, true, true, true, true, true, false, false, false, false, false, false, false, false, false, false, false, false, false, false, false, false, false, false, false, false, false] rfl rfl (any_of HT_.out (by kernel_rfl)) (fun _ _ _ h => h) (Or.inr ⟨by rfl, rfl⟩) ?_ ?_
         rotate_left
         · simp only [Act.put, Ext.sb, Ext.sz, Ext.ss, i64_w, i32_w]; rfl
         refine pure_ (i := 15) (N := some 36) (v := undef) (a' := ?_) #[true, true, true, true, true, true, true, true, true, true, true, true, true, true, true, true, false, false, false, false, false, false, false, false, false, false, false, false, false, false, false, false, false, false, false, false] rfl rfl (any_of HT_.out (by kernel_rfl)) (fun _ _ _ h => h) (Or.inr ⟨by rfl, rfl⟩) ?_ ?_
         rotate_left
         · simp only [Act.put, Ext.sb, Ext.sz, Ext.ss, i64_w, i32_w]; rfl
         refine pure_ (i := 16) (N := some 37) (v := undef) (a' := ?_) zb4_7 rfl rfl (any_of HT_.out (by kernel_rfl)) (fun _ _ _ h => h) (Or.inr ⟨by rfl, rfl⟩) ?_ ?_
         rotate_left
         · simp only [Act.put, Ext.sb, Ext.sz, Ext.ss, i64_w, i32_w]; rfl
         refine pure_ (i := 17) (N := some 38) (v := undef) (a' := ?_) zb4_2 rfl rfl (any_of HT_.out (by kernel_rfl)) (fun _ _ _ h => h) (Or.inr ⟨by rfl, rfl⟩) ?_ ?_
         rotate_left
         · simp only [Act.put, Ext.sb, Ext.sz, Ext.ss, i64_w, i32_w]; rfl
         refine pure_ (i := 18) (N := some 39) (v := undef) (a' := ?_) zb4_25 rfl rfl (any_of HT_.out (by kernel_rfl)) (fun _ _ _ h => h) (Or.inr ⟨by rfl, rfl⟩) ?_ ?_
         rotate_left
         · simp only [Act.put, Ext.sb, Ext.sz, Ext.ss, i64_w, i32_w]; rfl
         refine pure_ (i := 19) (N := some 40) (v := undef) (a' := ?_) zb4_26 rfl rfl (any_of HT_.out (by kernel_rfl)) (fun _ _ _ h => h) (Or.inr ⟨by rfl, rfl⟩) ?_ ?_
         rotate_left
         · simp only [Act.put, Ext.sb, Ext.sz, Ext.ss, i64_w, i32_w]; rfl
         refine pure_ (i := 20) (N := some 41) (v := ?_) (a' := ?_) zb4_27 rfl rfl (any_of HT_.out (by kernel_rfl)) (fun _ _ _ h => h) (Or.inl ⟨by rfl, ?_⟩) ?_ ?_
         rotate_left
         · intro w'; go_simp; with_reducible rfl
         rotate_left
         · simp only [Act.put, Ext.sb, Ext.sz, Ext.ss, i64_w, i32_w]; rfl
         refine pure_ (i := 21) (N := some 42) (v := ?_) (a' := ?_) zb4_28 rfl rfl (any_of HT_.out (by kernel_rfl)) (fun _ _ _ h => h) (Or.inl ⟨by rfl, ?_⟩) ?_ ?_
         rotate_left
         · intro w'; go_simp; with_reducible rfl
         rotate_left
         · simp only [Act.put, Ext.sb, Ext.sz, Ext.ss, i64_w, i32_w]; rfl
         refine pure_ (i := 22) (N := some 43) (v := undef) (a' := ?_) zb4_29 rfl rfl (any_of HT_.out (by kernel_rfl)) (fun _ _ _ h => h) (Or.inr ⟨by rfl, rfl⟩) ?_ ?_
         rotate_left
         · simp only [Act.put, Ext.sb, Ext.sz, Ext.ss, i64_w, i32_w]; rfl
         refine pure_ (i := 23) (N := some 44) (v := undef) (a' := ?_) zb4_30 rfl rfl (any_of HT_.out (by kernel_rfl)) (fun _ _ _ h => h) (Or.inr ⟨by rfl, rfl⟩) ?_ ?_
         rotate_left
         · simp only [Act.put, Ext.sb, Ext.sz, Ext.ss, i64_w, i32_w]; rfl
         refine pure_ (i := 24) (N := some 45) (v := undef) (a' := ?_) zb4_31 rfl rfl (any_of HT_.out (by kernel_rfl)) (fun _ _ _ h => h) (Or.inr ⟨by rfl, rfl⟩) ?_ ?_
         rotate_left
         · simp only [Act.put, Ext.sb, Ext.sz, Ext.ss, i64_w, i32_w]; rfl
         refine pure_ (i := 25) (N := some 46) (v := undef) (a' := ?_) zb4_32 rfl rfl (any_of HT_.out (by kernel_rfl)) (fun _ _ _ h => h) (Or.inr ⟨by rfl, rfl⟩) ?_ ?_
         rotate_left
         · simp only [Act.put, Ext.sb, Ext.sz, Ext.ss, i64_w, i32_w]; rfl
         refine pure_ (i := 26) (N := some 47) (v := undef) (a' := ?_) zb4_33 rfl rfl (any_of HT_.out (by kernel_rfl)) (fun _ _ _ h => h) (Or.inr ⟨by rfl, rfl⟩) ?_ ?_
         rotate_left
         · simp only [Act.put, Ext.sb, Ext.sz, Ext.ss, i64_w, i32_w]; rfl
         refine pure_ (i := 27) (N := some 48) (v := undef) (a' := ?_) zb4_34 rfl rfl (any_of HT_.out (by kernel_rfl)) (fun _ _ _ h => h) (Or.inr ⟨by rfl, rfl⟩) ?_ ?_
         rotate_left
         · simp only [Act.put, Ext.sb, Ext.sz, Ext.ss, i64_w, i32_w]; rfl
         refine pure_ (i := 28) (N := some 49) (v := undef) (a' := ?_) zb4_41 rfl rfl (any_of HT_.out (by kernel_rfl)) (fun _ _ _ h => h) (Or.inr ⟨by rfl, rfl⟩) ?_ ?_
         rotate_left
         · simp only [Act.put, Ext.sb, Ext.sz, Ext.ss, i64_w, i32_w]; rfl
         refine pure_ (i := 29) (N := some 50) (v := undef) (a' := ?_) zb4_44 rfl rfl (any_of HT_.out (by kernel_rfl)) (fun _ _ _ h => h) (Or.inr ⟨by rfl, rfl⟩) ?_ ?_
         rotate_left
         · simp only [Act.put, Ext.sb, Ext.sz, Ext.ss, i64_w, i32_w]; rfl
         refine pure_ (i := 30) (N := some 51) (v := undef) (a' := ?_) zb4_12 rfl rfl (any_of HT_.out (by kernel_rfl)) (fun _ _ _ h => h) (Or.inr ⟨by rfl, rfl⟩) ?_ ?_
         rotate_left
         · simp only [Act.put, Ext.sb, Ext.sz, Ext.ss, i64_w, i32_w]; rfl
         refine pure_ (i := 31) (N := some 52) (v := undef) (a' := ?_) zb4_8 rfl rfl (any_of HT_.out (by kernel_rfl)) (fun _ _ _ h => h) (Or.inr ⟨by rfl, rfl⟩) ?_ ?_
         rotate_left
         · simp only [Act.put, Ext.sb, Ext.sz, Ext.ss, i64_w, i32_w]; rfl
         refine pure_ (i := 32) (N := some 53) (v := undef) (a' := ?_) zb4_36 rfl rfl (any_of HT_.out (by kernel_rfl)) (fun _ _ _ h => h) (Or.inr ⟨by rfl, rfl⟩) ?_ ?_
         rotate_left
         · simp only [Act.put, Ext.sb, Ext.sz, Ext.ss, i64_w, i32_w]; rfl
         refine pure_ (i := 33) (N := some 54) (v := undef) (a' := ?_) zb4_37 rfl rfl (any_of HT_.out (by kernel_rfl)) (fun _ _ _ h => h) (Or.inr ⟨by rfl, rfl⟩) ?_ ?_
         rotate_left
         · simp only [Act.put, Ext.sb, Ext.sz, Ext.ss, i64_w, i32_w]; rfl
         refine pure_ (i := 34) (N := some 55) (v := ?_) (a' := ?_) zb4_38 rfl rfl (any_of HT_.out (by kernel_rfl)) (fun _ _ _ h => h) (Or.inl ⟨by rfl, ?_⟩) ?_ ?_
         rotate_left
         · intro w'; go_simp; with_reducible rfl
         rotate_left
         · simp only [Act.put, Ext.sb, Ext.sz, Ext.ss, i64_w, i32_w]; rfl
         refine pure_ (i := 35) (N := some 4) (v := ?_) (a' := ?_) zb4_39 rfl rfl (any_of HT_.out (by kernel_rfl)) (fun _ _ _ h => h) (Or.inl ⟨by rfl, ?_⟩) ?_ ?_
         rotate_left
         · intro w'; go_simp; with_reducible rfl
         rotate_left
         · simp only [Act.put, Ext.sb, Ext.sz, Ext.ss, i64_w, i32_w]; rfl
         refine done_ (done_of HT_.out (by kernel_rfl)) ?_
         try go_wp2
         go_ret
         exact ⟨by first | rfl | (simp [errW_none, errW_some] <;> rfl) | (simp only [← hji13]; first | rfl | (simp [errW_none, errW_some] <;> rfl)) | (simp [*, errW_none, errW_some] <;> rfl), by repeat (first | (with_reducible first | exact HB.out | apply Ext.ba | apply Ext.bn | apply Ext.bd) | exact HB.out | exact .refl _ _)⟩
       · rw [if_neg c15] at H; exact absurd H (by simp)
      · rw [if_neg c14] at H; exact absurd H (by simp)

/-- THE ONE PURE STATEMENT of terrierlaw02_SumJoins: yours. -/
def terrierlaw02_SumJoins.Pure : Prop := ∀ (l0 : List Int) (a1 : Int), (Open.okSlice (fun y_ => (Lit.int .u8 y_).wf = true) 1 l0) → ((Lit.int .i64 a1).wf = true) → ∃ k, terrierlaw02_SumJoins.f k l0 a1 = some true
theorem terrierlaw02_SumJoins.walk (P : terrierlaw02_SumJoins.Pure) (A0 : Option Addr) (c0 : Nat) (l0 : List Int) (a1 : Int) (w : World) (hk0 : Open.okSlice (fun y_ => (Lit.int .u8 y_).wf = true) 1 l0) (hr0 : Kd.C (Kd.int .u8) w A0 l0.length l0) (hc0 : l0.length ≤ c0) (hk1 : (Lit.int .i64 a1).wf = true) :
  Calls Try.prog 4 #[.slice A0 l0.length c0, .int .i64 a1] w fun e w' => e = .returned (.bool true) ∧ Below w.heap.size w w' := by
 obtain ⟨k, h⟩ := P l0 a1 hk0 hk1
 refine (terrierlaw02_SumJoins.calls k (fun k_ => k_ < w.heap.size) _ _ l0 a1 true w (Kd.V_mk hc0 (Kd.C_F (Kd.heap_int .u8) hr0)) h).mono ?_
 rintro e w' ⟨rfl, hd⟩
 exact ⟨rfl, hd⟩

end Go.Proofs.Ytmaoppljldllfaa.PJ
