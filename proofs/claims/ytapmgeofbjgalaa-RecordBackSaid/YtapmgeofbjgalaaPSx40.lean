-- Written by wip/printx.py, a program of this work over the kit's print, for this claim.
import Derived.Test.YtapmgeofbjgalaaPSx0
import Derived.Test.YtapmgeofbjgalaaPSx4
import Derived.Test.YtapmgeofbjgalaaPSx5
import Derived.Test.YtapmgeofbjgalaaPSx6
import Derived.Test.YtapmgeofbjgalaaPSx10
import Derived.Test.YtapmgeofbjgalaaPSx11
import Derived.Test.YtapmgeofbjgalaaPSx13
import Derived.Test.YtapmgeofbjgalaaPSx19
import Derived.Test.YtapmgeofbjgalaaPSx24
import Derived.Test.YtapmgeofbjgalaaPSx33
namespace Go.Proofs.Ytapmgeofbjgalaa.PS
open Go.RowKit Go.Proofs.YtapmgeofbjgalaaW.PrintWords Go.Proofs.YtapmgeofbjgalaaW.PrintLast Go.Proofs.YtapmgeofbjgalaaW.PrintMore
attribute [local go_sem] max2_int min2_int max_two min_two max_three min_three max_four min_four   -- for this text's walks alone
attribute [local go_sem] Ext.pick_u8 Ext.pick_u32 Ext.pick_u64
set_option linter.unusedVariables false
set_option linter.unusedSimpArgs false

@[reducible] def zb6_0 : Array Bool := #[false, false, false, false, false, false, false, false, false, false, false, false, false, false, false, false, false, false, false, false, false, false, false, false, false]
@[reducible] def zb6_1 : Array Bool := #[true, false, false, false, false, false, false, false, false, false, false, false, false, false, false, false, false, false, false, false, false, false, false, false, false]
@[reducible] def zb6_2 : Array Bool := #[true, true, false, false, false, false, false, false, false, false, false, false, false, false, false, false, false, false, false, false, false, false, false, false, false]
@[reducible] def zb6_3 : Array Bool := #[true, true, true, false, false, false, false, false, false, false, false, false, false, false, false, false, false, false, false, false, false, false, false, false, false]
@[reducible] def zb6_4 : Array Bool := #[true, true, true, true, false, false, false, false, false, false, false, false, false, false, false, false, false, false, false, false, false, false, false, false, false]
@[reducible] def zb6_5 : Array Bool := #[true, true, true, true, true, false, false, false, false, false, false, false, false, false, false, false, false, false, false, false, false, false, false, false, false]
@[reducible] def zb6_6 : Array Bool := #[true, true, true, true, true, true, false, false, false, false, false, false, false, false, false, false, false, false, false, false, false, false, false, false, false]
@[reducible] def zb6_7 : Array Bool := #[true, true, true, true, true, true, true, false, false, false, false, false, false, false, false, false, false, false, false, false, false, false, false, false, false]
@[reducible] def zb6_8 : Array Bool := #[true, true, true, true, true, true, true, true, false, false, false, false, false, false, false, false, false, false, false, false, false, false, false, false, false]
@[reducible] def zb6_9 : Array Bool := #[true, true, true, true, true, true, true, true, true, false, false, false, false, false, false, false, false, false, false, false, false, false, false, false, false]
@[reducible] def zb6_10 : Array Bool := #[true, true, true, true, true, true, true, true, true, true, false, false, false, false, false, false, false, false, false, false, false, false, false, false, false]
@[reducible] def zb6_11 : Array Bool := #[true, true, true, true, true, true, true, true, true, true, true, false, false, false, false, false, false, false, false, false, false, false, false, false, false]
@[reducible] def zb6_12 : Array Bool := #[true, true, true, true, true, true, true, true, true, true, true, true, false, false, false, false, false, false, false, false, false, false, false, false, false]
@[reducible] def zb6_13 : Array Bool := #[true, true, true, true, true, true, true, true, true, true, true, true, true, false, false, false, false, false, false, false, false, false, false, false, false]
@[reducible] def zb6_14 : Array Bool := #[true, true, true, true, true, true, true, true, true, true, true, true, true, true, false, false, false, false, false, false, false, false, false, false, false]
@[reducible] def zb6_15 : Array Bool := #[true, true, true, true, true, true, true, true, true, true, true, true, true, true, true, false, false, false, false, false, false, false, false, false, false]
@[reducible] def zb6_16 : Array Bool := #[true, true, true, true, true, true, true, true, true, true, true, true, true, true, true, true, false, false, false, false, false, false, false, false, false]
@[reducible] def zb6_17 : Array Bool := #[true, true, true, true, true, true, true, true, true, true, true, true, true, true, true, true, true, false, false, false, false, false, false, false, false]
@[reducible] def zb6_18 : Array Bool := #[true, true, true, true, true, true, true, true, true, true, true, true, true, true, true, true, true, true, true, true, false, false, false, false, false]
@[reducible] def zb6_19 : Array Bool := #[true, true, true, true, true, true, true, true, true, true, true, true, true, true, true, true, true, true, true, true, true, false, false, false, false]
@[reducible] def zb6_20 : Array Bool := #[true, true, true, true, true, true, true, true, true, true, true, true, true, true, true, true, true, true, true, true, true, true, false, false, false]
@[reducible] def zb6_21 : Array Bool := #[true, true, true, true, true, true, true, true, true, true, true, true, true, true, true, true, true, true, true, true, true, true, true, false, false]
@[reducible] def zb6_22 : Array Bool := #[true, true, true, true, true, true, true, true, true, true, true, true, true, true, true, true, true, true, true, true, true, true, true, true, false]
@[reducible] def zb6_23 : Array Bool := #[true, true, true, true, true, true, true, true, true, true, true, true, true, true, true, true, true, true, true, true, true, true, true, true, true]
@[reducible] def zb6_24 : Array Bool := #[true, true, true, true, true, true, true, true, true, true, true, true, true, true, true, true, true, true, false, false, false, false, false, false, false]
@[reducible] def zb6_25 : Array Bool := #[true, true, true, true, true, true, true, true, true, true, true, true, true, true, true, true, true, true, true, false, false, false, false, false, false]
/-! ### terrierlaw13_RecordBack: function 6 -/
mutual
def terrierlaw13_RecordBack.j0 : Nat → Bool → List Int → List Int → Int → Int → Int → Int → List Int → List Int → Int → Int → Int → Int → Option (Bool)
 | 0, _, _, _, _, _, _, _, _, _, _, _, _, _ => none
 | k + 1, x28, x494000, x494001, x494002, x494003, x494004, x494005, x495000, x495001, x495002, x495003, x495004, x495005 => if x28 = true then ((terrierlaw13_lives.f k).bind fun t498 => (some t498)) else ((record_Encode.f k x494000 x494001 x494002 x494003 x494004 x494005).bind fun bt499 => ((record_Tomb.f k x494000).bind fun bt503 => (if bt503.2 = 0 then ((record_Decode.f k bt503.1).bind fun bt507 => (if bt507.2.2.2.2.2.2.2 = 0 then (if bt507.2.2.2.2.2.2.1 = true then ((terrierref01_Same.f bt507.1 x494000).bind fun t520 => (if t520 = true then (if bt507.2.2.2.1 = 0 then ((terrierref01_Same.f bt503.1 bt499.1).bind fun t521 => (if t521 = true then (some false) else (terrierlaw13_RecordBack.j1 k bt499.1 bt499.2 x494000 x494001 x494002 x494003 x494004 x494005 x495000 x495001 x495002 x495003 x495004 x495005))) else (some false)) else (some false))) else (some false)) else (some false))) else (terrierlaw13_RecordBack.j1 k bt499.1 bt499.2 x494000 x494001 x494002 x494003 x494004 x494005 x495000 x495001 x495002 x495003 x495004 x495005))))
def terrierlaw13_RecordBack.j1 : Nat → List Int → Int → List Int → List Int → Int → Int → Int → Int → List Int → List Int → Int → Int → Int → Int → Option (Bool)
 | 0, _, _, _, _, _, _, _, _, _, _, _, _, _, _ => none
 | k + 1, x5, x6, x494000, x494001, x494002, x494003, x494004, x494005, x495000, x495001, x495002, x495003, x495004, x495005 => if x6 = 0 then ((record_Decode.f k x5).bind fun bt523 => ((record_Encode.f k x495000 x495001 x495002 x495003 x495004 x495005).bind fun bt536 => (if bt523.2.2.2.2.2.2.2 = 0 then (if bt523.2.2.2.2.2.2.1 = true then (some false) else ((record_Same.f x494000 x494001 x494002 x494003 x494004 x494005 bt523.1 bt523.2.1 bt523.2.2.1 bt523.2.2.2.1 bt523.2.2.2.2.1 bt523.2.2.2.2.2.1).bind fun t540 => (if t540 = true then (if bt536.2 = 0 then ((terrierref01_Same.f x5 bt536.1).bind fun t541 => ((record_Same.f x494000 x494001 x494002 x494003 x494004 x494005 x495000 x495001 x495002 x495003 x495004 x495005).bind fun t542 => (some (t541 == t542)))) else (some true)) else (some false)))) else (some false)))) else ((record_Right.f x494000 x494001 x494002 x494003 x494004 x494005).bind fun t522 => (some (!t522)))
end
def terrierlaw13_RecordBack.f (k : Nat) (l0_0 : List Int) (l0_1 : List Int) (a0_2 : Int) (a0_3 : Int) (a0_4 : Int) (a0_5 : Int) (l1_0 : List Int) (l1_1 : List Int) (a1_2 : Int) (a1_3 : Int) (a1_4 : Int) (a1_5 : Int) : Option (Bool) := (terrierlaw13_lives.f k).bind fun t495 => (if t495 = true then ((terrierlaw13_few.f l0_0 l0_1 a0_2 a0_3 a0_4 a0_5).bind fun t496 => (if t496 = true then ((terrierlaw13_few.f l1_0 l1_1 a1_2 a1_3 a1_4 a1_5).bind fun t497 => (terrierlaw13_RecordBack.j0 k (!t497) l0_0 l0_1 a0_2 a0_3 a0_4 a0_5 l1_0 l1_1 a1_2 a1_3 a1_4 a1_5)) else (terrierlaw13_RecordBack.j0 k true l0_0 l0_1 a0_2 a0_3 a0_4 a0_5 l1_0 l1_1 a1_2 a1_3 a1_4 a1_5))) else (terrierlaw13_RecordBack.j0 k true l0_0 l0_1 a0_2 a0_3 a0_4 a0_5 l1_0 l1_1 a1_2 a1_3 a1_4 a1_5))
theorem terrierlaw13_RecordBack.mono_l : ∀ k, (∀ y0 y1 y2 y3 y4 y5 y6 y7 y8 y9 y10 y11 y12, LeO (terrierlaw13_RecordBack.j0 k y0 y1 y2 y3 y4 y5 y6 y7 y8 y9 y10 y11 y12) (terrierlaw13_RecordBack.j0 (k + 1) y0 y1 y2 y3 y4 y5 y6 y7 y8 y9 y10 y11 y12)) ∧ (∀ y0 y1 y2 y3 y4 y5 y6 y7 y8 y9 y10 y11 y12 y13, LeO (terrierlaw13_RecordBack.j1 k y0 y1 y2 y3 y4 y5 y6 y7 y8 y9 y10 y11 y12 y13) (terrierlaw13_RecordBack.j1 (k + 1) y0 y1 y2 y3 y4 y5 y6 y7 y8 y9 y10 y11 y12 y13))
 | 0 => ⟨fun _ _ _ _ _ _ _ _ _ _ _ _ _ r h => by simp [terrierlaw13_RecordBack.j0] at h, fun _ _ _ _ _ _ _ _ _ _ _ _ _ _ r h => by simp [terrierlaw13_RecordBack.j1] at h⟩
 | k + 1 => by
  obtain ⟨ih0, ih1⟩ := terrierlaw13_RecordBack.mono_l k
  refine ⟨?_, ?_⟩
  ·
   intro y0 y1 y2 y3 y4 y5 y6 y7 y8 y9 y10 y11 y12
   unfold terrierlaw13_RecordBack.j0
   repeat' first
   | (with_reducible exact ih0 _ _ _ _ _ _ _ _ _ _ _ _ _)
   | (with_reducible exact ih1 _ _ _ _ _ _ _ _ _ _ _ _ _ _)
   | (with_reducible exact record_Decode.mono _ _)
   | (with_reducible exact record_Encode.mono _ _ _ _ _ _ _)
   | (with_reducible exact record_Tomb.mono _ _)
   | (with_reducible exact terrierlaw13_lives.mono _)
   | (with_reducible exact LeO.refl _)
   | (with_reducible exact LeO.none _)
   | (with_reducible refine LeO.ite ?_ ?_)
   | (with_reducible refine LeO.bind ?_ (fun _ => ?_))
   | exact ih0 _ _ _ _ _ _ _ _ _ _ _ _ _
   | exact ih1 _ _ _ _ _ _ _ _ _ _ _ _ _ _
   | exact record_Decode.mono _ _
   | exact record_Encode.mono _ _ _ _ _ _ _
   | exact record_Tomb.mono _ _
   | exact terrierlaw13_lives.mono _
   | exact LeO.none _
   | refine LeO.ite ?_ ?_
   | refine LeO.bind ?_ (fun _ => ?_)
  ·
   intro y0 y1 y2 y3 y4 y5 y6 y7 y8 y9 y10 y11 y12 y13
   unfold terrierlaw13_RecordBack.j1
   repeat' first
   | (with_reducible exact ih0 _ _ _ _ _ _ _ _ _ _ _ _ _)
   | (with_reducible exact ih1 _ _ _ _ _ _ _ _ _ _ _ _ _ _)
   | (with_reducible exact record_Decode.mono _ _)
   | (with_reducible exact record_Encode.mono _ _ _ _ _ _ _)
   | (with_reducible exact record_Tomb.mono _ _)
   | (with_reducible exact terrierlaw13_lives.mono _)
   | (with_reducible exact LeO.refl _)
   | (with_reducible exact LeO.none _)
   | (with_reducible refine LeO.ite ?_ ?_)
   | (with_reducible refine LeO.bind ?_ (fun _ => ?_))
   | exact ih0 _ _ _ _ _ _ _ _ _ _ _ _ _
   | exact ih1 _ _ _ _ _ _ _ _ _ _ _ _ _ _
   | exact record_Decode.mono _ _
   | exact record_Encode.mono _ _ _ _ _ _ _
   | exact record_Tomb.mono _ _
   | exact terrierlaw13_lives.mono _
   | exact LeO.none _
   | refine LeO.ite ?_ ?_
   | refine LeO.bind ?_ (fun _ => ?_)
theorem terrierlaw13_RecordBack.mono : ∀ a0 a1 a2 a3 a4 a5 a6 a7 a8 a9 a10 a11 k, LeO (terrierlaw13_RecordBack.f k a0 a1 a2 a3 a4 a5 a6 a7 a8 a9 a10 a11) (terrierlaw13_RecordBack.f (k + 1) a0 a1 a2 a3 a4 a5 a6 a7 a8 a9 a10 a11) := by
 intro a0 a1 a2 a3 a4 a5 a6 a7 a8 a9 a10 a11 k
 obtain ⟨ih0, ih1⟩ := terrierlaw13_RecordBack.mono_l k
 unfold terrierlaw13_RecordBack.f
 repeat' first
   | (with_reducible exact ih0 _ _ _ _ _ _ _ _ _ _ _ _ _)
   | (with_reducible exact ih1 _ _ _ _ _ _ _ _ _ _ _ _ _ _)
   | (with_reducible exact record_Decode.mono _ _)
   | (with_reducible exact record_Encode.mono _ _ _ _ _ _ _)
   | (with_reducible exact record_Tomb.mono _ _)
   | (with_reducible exact terrierlaw13_lives.mono _)
   | (with_reducible exact LeO.refl _)
   | (with_reducible exact LeO.none _)
   | (with_reducible refine LeO.ite ?_ ?_)
   | (with_reducible refine LeO.bind ?_ (fun _ => ?_))
   | exact ih0 _ _ _ _ _ _ _ _ _ _ _ _ _
   | exact ih1 _ _ _ _ _ _ _ _ _ _ _ _ _ _
   | exact record_Decode.mono _ _
   | exact record_Encode.mono _ _ _ _ _ _ _
   | exact record_Tomb.mono _ _
   | exact terrierlaw13_lives.mono _
   | exact LeO.none _
   | refine LeO.ite ?_ ?_
   | refine LeO.bind ?_ (fun _ => ?_)
def terrierlaw13_RecordBack.T13 : Bool × List (List Nat × List Nat) := (true, [([], []), ([0], [0]), ([1], [1]), ([2], [2]), ([3, 2], [2, 3]), ([2, 4], [2, 4]), ([5, 2], [5]), ([6], [6]), ([6], [6]), ([7, 8, 6, 6], [6, 7, 8]), ([6, 9], [6, 9]), ([10, 9], [10]), ([11], [11]), ([12, 11], [11, 12]), ([13, 11, 11], [11, 13]), ([14], [14]), ([14], [14]), ([15, 16, 14, 14], [14, 15, 16]), ([14], [14]), ([14], [14]), ([18, 19, 17, 14], [14, 18, 19]), ([17, 20, 14], [14, 17, 20]), ([14, 21, 11], [11, 14, 21]), ([11, 22], [11, 22]), ([23, 20, 0, 1, 2, 3, 4, 5, 6, 7, 8, 9, 10, 11, 12, 13, 14, 15, 16, 17, 18, 19, 20, 21, 22, 23], [23])])
def terrierlaw13_RecordBack.B13 : List Nat := [0, 1, 3, 7, 15, 31, 63, 127, 127, 511, 1023, 2047, 4095, 8191, 16383, 32767, 32767, 131071, 32767, 32767, 1048575, 2097151, 4194303, 8388607, 16777215]
theorem terrierlaw13_RecordBack.tab13 : rtab .any (opsOf Try.f6 13) = terrierlaw13_RecordBack.T13 := by kernel_rfl
theorem terrierlaw13_RecordBack.bits13 : waitsOk terrierlaw13_RecordBack.T13.2 terrierlaw13_RecordBack.B13 = true := by kernel_rfl
set_option maxHeartbeats 8000000 in
set_option maxRecDepth 100000 in
theorem terrierlaw13_RecordBack.calls (k : Nat) (A0_0 : Option Addr) (c0_0 : Nat) (l0_0 : List Int) (A0_1 : Option Addr) (c0_1 : Nat) (l0_1 : List Int) (a0_2 : Int) (a0_3 : Int) (a0_4 : Int) (a0_5 : Int) (A1_0 : Option Addr) (c1_0 : Nat) (l1_0 : List Int) (A1_1 : Option Addr) (c1_1 : Nat) (l1_1 : List Int) (a1_2 : Int) (a1_3 : Int) (a1_4 : Int) (a1_5 : Int) (r : Bool) (w : World) (hr0_0 : Kd.C (Kd.int .u8) w A0_0 l0_0.length l0_0) (hc0_0 : l0_0.length ≤ c0_0) (hr0_1 : Kd.C (Kd.int .u8) w A0_1 l0_1.length l0_1) (hc0_1 : l0_1.length ≤ c0_1) (hr1_0 : Kd.C (Kd.int .u8) w A1_0 l1_0.length l1_0) (hc1_0 : l1_0.length ≤ c1_0) (hr1_1 : Kd.C (Kd.int .u8) w A1_1 l1_1.length l1_1) (hc1_1 : l1_1.length ≤ c1_1) (h : terrierlaw13_RecordBack.f k l0_0 l0_1 a0_2 a0_3 a0_4 a0_5 l1_0 l1_1 a1_2 a1_3 a1_4 a1_5 = some r) :
  Calls Try.prog 6 #[.agg #[.slice A0_0 l0_0.length c0_0, .slice A0_1 l0_1.length c0_1, .int .i64 a0_2, .int .i64 a0_3, .int .i64 a0_4, .int .i64 a0_5], .agg #[.slice A1_0 l1_0.length c1_0, .slice A1_1 l1_1.length c1_1, .int .i64 a1_2, .int .i64 a1_3, .int .i64 a1_4, .int .i64 a1_5]] w fun e w' => e = .returned (.bool r) ∧ Below w.heap.size w w' := by
 have hu24 := Try.underlying24
 have HR0_0 := Aside0.mk hr0_0
 have HC0_0 := Aside0.mk hc0_0
 clear hr0_0 hc0_0
 have HR0_1 := Aside0.mk hr0_1
 have HC0_1 := Aside0.mk hc0_1
 clear hr0_1 hc0_1
 have HR1_0 := Aside0.mk hr1_0
 have HC1_0 := Aside0.mk hc1_0
 clear hr1_0 hc1_0
 have HR1_1 := Aside0.mk hr1_1
 have HC1_1 := Aside0.mk hc1_1
 clear hr1_1 hc1_1
 have HB := Aside0.mk (Below.refl w.heap.size w)
 have H : ((terrierlaw13_lives.f k).bind fun t495 => (if t495 = true then ((terrierlaw13_few.f l0_0 l0_1 a0_2 a0_3 a0_4 a0_5).bind fun t496 => (if t496 = true then ((terrierlaw13_few.f l1_0 l1_1 a1_2 a1_3 a1_4 a1_5).bind fun t497 => (terrierlaw13_RecordBack.j0 k (!t497) l0_0 l0_1 a0_2 a0_3 a0_4 a0_5 l1_0 l1_1 a1_2 a1_3 a1_4 a1_5)) else (terrierlaw13_RecordBack.j0 k true l0_0 l0_1 a0_2 a0_3 a0_4 a0_5 l1_0 l1_1 a1_2 a1_3 a1_4 a1_5))) else (terrierlaw13_RecordBack.j0 k true l0_0 l0_1 a0_2 a0_3 a0_4 a0_5 l1_0 l1_1 a1_2 a1_3 a1_4 a1_5))) = some r := h
 clear h
 have HC3 := Aside0.mk H
 clear H
 go_enter Try.func6, Try.ntmps6
 go_upto_region 1 with (first | ((with_reducible refine gate_dst (N := 2) rfl ?_); refine box_event ?hg (N := 2) ?hd (cs := #[.slice A0_0 l0_0.length c0_0, .slice A0_1 l0_1.length c0_1, .int .i64 a0_2, .int .i64 a0_3, .int .i64 a0_4, .int .i64 a0_5]) (t := 24) ?hr ?_; (case hd => rfl); (case hg => rfl); (case hr => first | (go_simp; done) | (go_simp; rfl)); intro gb493 hg w4 hbox hb; have n0_ := Aside0.mk (below_step (by repeat (first | (with_reducible first | exact HB.out | apply below_alloc | apply pw_below_drewN | apply below_drew1) | exact HB.out | exact Below.refl _ _)) hb); have n1_ := Aside0.mk (hbox); have n2_ := Aside0.mk ((by rw [hg]; exact (below_size (by repeat (first | (with_reducible first | exact HB.out | apply below_alloc | apply pw_below_drewN | apply below_drew1) | exact HB.out | exact Below.refl _ _))) : w.heap.size ≤ gb493)); have n3_ := Aside0.mk ((by rw [hg]; exact (below_size (by repeat (first | (with_reducible first | exact HB.out | apply below_alloc | apply pw_below_drewN | apply below_drew1) | exact HB.out | exact Below.refl _ _))) : w.heap.size ≤ gb493)); clear HB; have HB := n0_; have BK493 := n1_; have GW493 := n2_; have GE493 := n3_; clear n0_ n1_ n2_ n3_; clear hb hbox hg) | ((with_reducible refine gate_dst (N := 3) rfl ?_); refine box_event ?hg (N := 3) ?hd (cs := #[.slice A1_0 l1_0.length c1_0, .slice A1_1 l1_1.length c1_1, .int .i64 a1_2, .int .i64 a1_3, .int .i64 a1_4, .int .i64 a1_5]) (t := 24) ?hr ?_; (case hd => rfl); (case hg => rfl); (case hr => first | (go_simp; done) | (go_simp; rfl)); intro gb494 hg w5 hbox hb; have n0_ := Aside0.mk (blk_below BK493.out hb); have n1_ := Aside0.mk (below_step (by repeat (first | (with_reducible first | exact HB.out | apply below_alloc | apply pw_below_drewN | apply below_drew1 | refine below_set ?_ GE493.out) | exact HB.out | exact Below.refl _ _)) hb); have n2_ := Aside0.mk (hbox); have n3_ := Aside0.mk ((by rw [hg]; exact (below_size (by repeat (first | (with_reducible first | exact HB.out | apply below_alloc | apply pw_below_drewN | apply below_drew1 | refine below_set ?_ GE493.out) | exact HB.out | exact Below.refl _ _))) : w.heap.size ≤ gb494)); have n4_ := Aside0.mk ((by rw [hg]; exact (below_size (by repeat (first | (with_reducible first | exact HB.out | apply below_alloc | apply pw_below_drewN | apply below_drew1 | refine below_set ?_ GE493.out) | exact HB.out | exact Below.refl _ _))) : w.heap.size ≤ gb494)); have n5_ := Aside0.mk ((by rw [hg]; exact Nat.ne_of_lt (blk_lt BK493.out) : gb493 ≠ gb494)); have n6_ := Aside0.mk ((by rw [hg]; exact Nat.ne_of_gt (blk_lt BK493.out) : gb494 ≠ gb493)); clear BK493; clear HB; have BK493 := n0_; have HB := n1_; have BK494 := n2_; have GW494 := n3_; have GE494 := n4_; have NB493_494 := n5_; have NB494_493 := n6_; clear n0_ n1_ n2_ n3_ n4_ n5_ n6_; clear hb hbox hg))
 (try simp only [Act.put, List.setIfInBounds_toArray, List.set_cons_zero, List.set_cons_succ])
 go_cut [28] (fun v28 wc => ∃ (kq : Nat) (x28_2 : Bool), v28 = .bool x28_2 ∧ Aside0 (terrierlaw13_RecordBack.j0 kq x28_2 l0_0 l0_1 a0_2 a0_3 a0_4 a0_5 l1_0 l1_1 a1_2 a1_3 a1_4 a1_5 = some r) ∧ Aside0 (kq ≤ k) ∧ Aside0 (wc.heap[gb493]? = some (.cells #[(.slice A0_0 l0_0.length c0_0), (.slice A0_1 l0_1.length c0_1), .int .i64 a0_2, .int .i64 a0_3, .int .i64 a0_4, .int .i64 a0_5] 24 (0, 0))) ∧ Aside0 (wc.heap[gb494]? = some (.cells #[(.slice A1_0 l1_0.length c1_0), (.slice A1_1 l1_1.length c1_1), .int .i64 a1_2, .int .i64 a1_3, .int .i64 a1_4, .int .i64 a1_5] 24 (0, 0))) ∧ Aside0 (Below w.heap.size w wc))
 case first =>
  have H := HC3.out
  clear HC3
  replace H := Option.bind_eq_some_iff.mp H
  obtain ⟨t495, A60, H⟩ := H
  replace H : (if t495 = true then ((terrierlaw13_few.f l0_0 l0_1 a0_2 a0_3 a0_4 a0_5).bind fun t496 => (if t496 = true then ((terrierlaw13_few.f l1_0 l1_1 a1_2 a1_3 a1_4 a1_5).bind fun t497 => (terrierlaw13_RecordBack.j0 k (!t497) l0_0 l0_1 a0_2 a0_3 a0_4 a0_5 l1_0 l1_1 a1_2 a1_3 a1_4 a1_5)) else (terrierlaw13_RecordBack.j0 k true l0_0 l0_1 a0_2 a0_3 a0_4 a0_5 l1_0 l1_1 a1_2 a1_3 a1_4 a1_5))) else (terrierlaw13_RecordBack.j0 k true l0_0 l0_1 a0_2 a0_3 a0_4 a0_5 l1_0 l1_1 a1_2 a1_3 a1_4 a1_5)) = some r := H
  have A6 := Aside0.mk A60
  clear A60
  by_cases c7 : t495 = true
  ·
   subst c7
   have H1 : ((terrierlaw13_few.f l0_0 l0_1 a0_2 a0_3 a0_4 a0_5).bind fun t496 => (if t496 = true then ((terrierlaw13_few.f l1_0 l1_1 a1_2 a1_3 a1_4 a1_5).bind fun t497 => (terrierlaw13_RecordBack.j0 k (!t497) l0_0 l0_1 a0_2 a0_3 a0_4 a0_5 l1_0 l1_1 a1_2 a1_3 a1_4 a1_5)) else (terrierlaw13_RecordBack.j0 k true l0_0 l0_1 a0_2 a0_3 a0_4 a0_5 l1_0 l1_1 a1_2 a1_3 a1_4 a1_5))) = some r := by rw [if_pos rfl] at H; exact H
   clear H
   have H := H1
   clear H1
   replace H := Option.bind_eq_some_iff.mp H
   obtain ⟨t496, A80, H⟩ := H
   replace H : (if t496 = true then ((terrierlaw13_few.f l1_0 l1_1 a1_2 a1_3 a1_4 a1_5).bind fun t497 => (terrierlaw13_RecordBack.j0 k (!t497) l0_0 l0_1 a0_2 a0_3 a0_4 a0_5 l1_0 l1_1 a1_2 a1_3 a1_4 a1_5)) else (terrierlaw13_RecordBack.j0 k true l0_0 l0_1 a0_2 a0_3 a0_4 a0_5 l1_0 l1_1 a1_2 a1_3 a1_4 a1_5)) = some r := H
   have A8 := Aside0.mk A80
   clear A80
   by_cases c9 : t496 = true
   ·
    subst c9
    have H1 : ((terrierlaw13_few.f l1_0 l1_1 a1_2 a1_3 a1_4 a1_5).bind fun t497 => (terrierlaw13_RecordBack.j0 k (!t497) l0_0 l0_1 a0_2 a0_3 a0_4 a0_5 l1_0 l1_1 a1_2 a1_3 a1_4 a1_5)) = some r := by rw [if_pos rfl] at H; exact H
    clear H
    have H := H1
    clear H1
    replace H := Option.bind_eq_some_iff.mp H
    obtain ⟨t497, A100, H⟩ := H
    replace H : (terrierlaw13_RecordBack.j0 k (!t497) l0_0 l0_1 a0_2 a0_3 a0_4 a0_5 l1_0 l1_1 a1_2 a1_3 a1_4 a1_5) = some r := H
    have A10 := Aside0.mk A100
    clear A100
    have H' := Aside0.mk H
    clear H
    go_wp2_with (first | ((with_reducible refine gate_callee (f := 7) rfl ?_); refine goesL_ (some 17) rfl rfl Try.func7 (by kernel_rfl) rfl #[] rfl (by (try simp only [List.map_toArray, List.map_cons, List.map_nil]); first | done | rfl | (simp only [List.length_drop, List.length_take]; rfl)) ?_; (with_reducible refine (terrierlaw13_lives.calls k  true _ A6.out).mono ?_); rintro e w11 ⟨rfl, hb⟩; refine ⟨_, rfl, ?_⟩; have n0_ := Aside0.mk (blk_below BK493.out hb); have n1_ := Aside0.mk (blk_below BK494.out hb); have n2_ := Aside0.mk (below_step (by repeat (first | (with_reducible first | exact HB.out | apply below_alloc | apply pw_below_drewN | apply below_drew1 | refine below_set ?_ GE493.out | refine below_set ?_ GE494.out) | exact HB.out | exact Below.refl _ _)) hb); clear BK493; clear BK494; clear HB; have BK493 := n0_; have BK494 := n1_; have HB := n2_; clear n0_ n1_ n2_; (try clear hb); (try clear hb2); (try clear hk); (try clear hi); have hnb12 := NB493_494.out; have hnc12 := NB494_493.out; have hcz13_0 : w11.cell? ⟨gb493, 0, none⟩ = some (.slice A0_0 l0_0.length c0_0) := (blk_cell BK493.out 0).trans rfl; have hcz13_1 : w11.cell? ⟨gb493, 1, none⟩ = some (.slice A0_1 l0_1.length c0_1) := (blk_cell BK493.out 1).trans rfl; have hcz13_2 : w11.cell? ⟨gb493, 2, none⟩ = some (.int .i64 a0_2) := (blk_cell BK493.out 2).trans rfl; have hcz13_3 : w11.cell? ⟨gb493, 3, none⟩ = some (.int .i64 a0_3) := (blk_cell BK493.out 3).trans rfl; have hcz13_4 : w11.cell? ⟨gb493, 4, none⟩ = some (.int .i64 a0_4) := (blk_cell BK493.out 4).trans rfl; have hcz13_5 : w11.cell? ⟨gb493, 5, none⟩ = some (.int .i64 a0_5) := (blk_cell BK493.out 5).trans rfl; have hfz13_0 := blk_frozen BK493.out 0; have hfz13_1 := blk_frozen BK493.out 1; have hfz13_2 := blk_frozen BK493.out 2; have hfz13_3 := blk_frozen BK493.out 3; have hfz13_4 := blk_frozen BK493.out 4; have hfz13_5 := blk_frozen BK493.out 5) | (go_at_call 8; (with_reducible refine (terrierlaw13_few.calls _ _ l0_0 _ _ l0_1 a0_2 a0_3 a0_4 a0_5 true _ ?side1 ?side2 ?side3 ?side4 A8.out).mono ?_); (case side1 => repeat (first | exact (Kd.C_below HR0_0.out HB.out) | exact HR0_0.out | (with_reducible refine Kd.C_alloc ?_ _) | (with_reducible refine Kd.C_drewN ?_ _) | (with_reducible refine Kd.C_drew ?_))); (case side2 => exact HC0_0.out); (case side3 => repeat (first | exact (Kd.C_below HR0_1.out HB.out) | exact HR0_1.out | (with_reducible refine Kd.C_alloc ?_ _) | (with_reducible refine Kd.C_drewN ?_ _) | (with_reducible refine Kd.C_drew ?_))); (case side4 => exact HC0_1.out); rintro e w14 ⟨rfl, hb⟩; have n0_ := Aside0.mk (blk_below BK493.out hb); have n1_ := Aside0.mk (blk_below BK494.out hb); have n2_ := Aside0.mk (below_step (by repeat (first | (with_reducible first | exact HB.out | apply below_alloc | apply pw_below_drewN | apply below_drew1 | refine below_set ?_ GE493.out | refine below_set ?_ GE494.out) | exact HB.out | exact Below.refl _ _)) hb); clear BK493; clear BK494; clear HB; have BK493 := n0_; have BK494 := n1_; have HB := n2_; clear n0_ n1_ n2_; (try clear hb); (try clear hb2); (try clear hk); (try clear hi); have hcz15_0 : w14.cell? ⟨gb494, 0, none⟩ = some (.slice A1_0 l1_0.length c1_0) := (blk_cell BK494.out 0).trans rfl; have hcz15_1 : w14.cell? ⟨gb494, 1, none⟩ = some (.slice A1_1 l1_1.length c1_1) := (blk_cell BK494.out 1).trans rfl; have hcz15_2 : w14.cell? ⟨gb494, 2, none⟩ = some (.int .i64 a1_2) := (blk_cell BK494.out 2).trans rfl; have hcz15_3 : w14.cell? ⟨gb494, 3, none⟩ = some (.int .i64 a1_3) := (blk_cell BK494.out 3).trans rfl; have hcz15_4 : w14.cell? ⟨gb494, 4, none⟩ = some (.int .i64 a1_4) := (blk_cell BK494.out 4).trans rfl; have hcz15_5 : w14.cell? ⟨gb494, 5, none⟩ = some (.int .i64 a1_5) := (blk_cell BK494.out 5).trans rfl; have hfz15_0 := blk_frozen BK494.out 0; have hfz15_1 := blk_frozen BK494.out 1; have hfz15_2 := blk_frozen BK494.out 2; have hfz15_3 := blk_frozen BK494.out 3; have hfz15_4 := blk_frozen BK494.out 4; have hfz15_5 := blk_frozen BK494.out 5) | (go_at_call 8; (with_reducible refine (terrierlaw13_few.calls _ _ l1_0 _ _ l1_1 a1_2 a1_3 a1_4 a1_5 t497 _ ?side1 ?side2 ?side3 ?side4 A10.out).mono ?_); (case side1 => repeat (first | exact (Kd.C_below HR1_0.out HB.out) | exact HR1_0.out | (with_reducible refine Kd.C_alloc ?_ _) | (with_reducible refine Kd.C_drewN ?_ _) | (with_reducible refine Kd.C_drew ?_))); (case side2 => exact HC1_0.out); (case side3 => repeat (first | exact (Kd.C_below HR1_1.out HB.out) | exact HR1_1.out | (with_reducible refine Kd.C_alloc ?_ _) | (with_reducible refine Kd.C_drewN ?_ _) | (with_reducible refine Kd.C_drew ?_))); (case side4 => exact HC1_1.out); rintro e w16 ⟨rfl, hb⟩; have n0_ := Aside0.mk (blk_below BK493.out hb); have n1_ := Aside0.mk (blk_below BK494.out hb); have n2_ := Aside0.mk (below_step (by repeat (first | (with_reducible first | exact HB.out | apply below_alloc | apply pw_below_drewN | apply below_drew1 | refine below_set ?_ GE493.out | refine below_set ?_ GE494.out) | exact HB.out | exact Below.refl _ _)) hb); clear BK493; clear BK494; clear HB; have BK493 := n0_; have BK494 := n1_; have HB := n2_; clear n0_ n1_ n2_; (try clear hb); (try clear hb2); (try clear hk); (try clear hi)))
    go_meet
    case rel => exact ⟨_, (!t497), (by first | rfl | (simp; done) | (simp [*]; done)), H', ⟨by first | omega | exact Nat.le_refl _⟩, ⟨by exact BK493.out⟩, ⟨by exact BK494.out⟩, ⟨by repeat (first | (with_reducible first | exact HB.out | apply below_alloc | apply pw_below_drewN | apply below_drew1 | refine below_set ?_ GE493.out | refine below_set ?_ GE494.out) | exact HB.out | exact Below.refl _ _)⟩⟩
   ·
    replace c9 := Bool.eq_false_iff.mpr c9
    subst c9
    have H1 : (terrierlaw13_RecordBack.j0 k true l0_0 l0_1 a0_2 a0_3 a0_4 a0_5 l1_0 l1_1 a1_2 a1_3 a1_4 a1_5) = some r := by rw [if_neg (show ¬ (false = true) by decide)] at H; exact H
    clear H
    have H := H1
    clear H1
    have H' := Aside0.mk H
    clear H
    go_wp2_with (first | ((with_reducible refine gate_callee (f := 7) rfl ?_); refine goesL_ (some 17) rfl rfl Try.func7 (by kernel_rfl) rfl #[] rfl (by (try simp only [List.map_toArray, List.map_cons, List.map_nil]); first | done | rfl | (simp only [List.length_drop, List.length_take]; rfl)) ?_; (with_reducible refine (terrierlaw13_lives.calls k  true _ A6.out).mono ?_); rintro e w17 ⟨rfl, hb⟩; refine ⟨_, rfl, ?_⟩; have n0_ := Aside0.mk (blk_below BK493.out hb); have n1_ := Aside0.mk (blk_below BK494.out hb); have n2_ := Aside0.mk (below_step (by repeat (first | (with_reducible first | exact HB.out | apply below_alloc | apply pw_below_drewN | apply below_drew1 | refine below_set ?_ GE493.out | refine below_set ?_ GE494.out) | exact HB.out | exact Below.refl _ _)) hb); clear BK493; clear BK494; clear HB; have BK493 := n0_; have BK494 := n1_; have HB := n2_; clear n0_ n1_ n2_; (try clear hb); (try clear hb2); (try clear hk); (try clear hi); have hnb18 := NB493_494.out; have hnc18 := NB494_493.out; have hcz19_0 : w17.cell? ⟨gb493, 0, none⟩ = some (.slice A0_0 l0_0.length c0_0) := (blk_cell BK493.out 0).trans rfl; have hcz19_1 : w17.cell? ⟨gb493, 1, none⟩ = some (.slice A0_1 l0_1.length c0_1) := (blk_cell BK493.out 1).trans rfl; have hcz19_2 : w17.cell? ⟨gb493, 2, none⟩ = some (.int .i64 a0_2) := (blk_cell BK493.out 2).trans rfl; have hcz19_3 : w17.cell? ⟨gb493, 3, none⟩ = some (.int .i64 a0_3) := (blk_cell BK493.out 3).trans rfl; have hcz19_4 : w17.cell? ⟨gb493, 4, none⟩ = some (.int .i64 a0_4) := (blk_cell BK493.out 4).trans rfl; have hcz19_5 : w17.cell? ⟨gb493, 5, none⟩ = some (.int .i64 a0_5) := (blk_cell BK493.out 5).trans rfl; have hfz19_0 := blk_frozen BK493.out 0; have hfz19_1 := blk_frozen BK493.out 1; have hfz19_2 := blk_frozen BK493.out 2; have hfz19_3 := blk_frozen BK493.out 3; have hfz19_4 := blk_frozen BK493.out 4; have hfz19_5 := blk_frozen BK493.out 5) | (go_at_call 8; (with_reducible refine (terrierlaw13_few.calls _ _ l0_0 _ _ l0_1 a0_2 a0_3 a0_4 a0_5 false _ ?side1 ?side2 ?side3 ?side4 A8.out).mono ?_); (case side1 => repeat (first | exact (Kd.C_below HR0_0.out HB.out) | exact HR0_0.out | (with_reducible refine Kd.C_alloc ?_ _) | (with_reducible refine Kd.C_drewN ?_ _) | (with_reducible refine Kd.C_drew ?_))); (case side2 => exact HC0_0.out); (case side3 => repeat (first | exact (Kd.C_below HR0_1.out HB.out) | exact HR0_1.out | (with_reducible refine Kd.C_alloc ?_ _) | (with_reducible refine Kd.C_drewN ?_ _) | (with_reducible refine Kd.C_drew ?_))); (case side4 => exact HC0_1.out); rintro e w20 ⟨rfl, hb⟩; have n0_ := Aside0.mk (blk_below BK493.out hb); have n1_ := Aside0.mk (blk_below BK494.out hb); have n2_ := Aside0.mk (below_step (by repeat (first | (with_reducible first | exact HB.out | apply below_alloc | apply pw_below_drewN | apply below_drew1 | refine below_set ?_ GE493.out | refine below_set ?_ GE494.out) | exact HB.out | exact Below.refl _ _)) hb); clear BK493; clear BK494; clear HB; have BK493 := n0_; have BK494 := n1_; have HB := n2_; clear n0_ n1_ n2_; (try clear hb); (try clear hb2); (try clear hk); (try clear hi)))
    go_meet
    case rel => exact ⟨_, (true), (by first | rfl | (simp; done) | (simp [*]; done)), H', ⟨by first | omega | exact Nat.le_refl _⟩, ⟨by exact BK493.out⟩, ⟨by exact BK494.out⟩, ⟨by repeat (first | (with_reducible first | exact HB.out | apply below_alloc | apply pw_below_drewN | apply below_drew1 | refine below_set ?_ GE493.out | refine below_set ?_ GE494.out) | exact HB.out | exact Below.refl _ _)⟩⟩
  ·
   replace c7 := Bool.eq_false_iff.mpr c7
   subst c7
   have H1 : (terrierlaw13_RecordBack.j0 k true l0_0 l0_1 a0_2 a0_3 a0_4 a0_5 l1_0 l1_1 a1_2 a1_3 a1_4 a1_5) = some r := by rw [if_neg (show ¬ (false = true) by decide)] at H; exact H
   clear H
   have H := H1
   clear H1
   have H' := Aside0.mk H
   clear H
   go_wp2_with (first | ((with_reducible refine gate_callee (f := 7) rfl ?_); refine goesL_ (some 17) rfl rfl Try.func7 (by kernel_rfl) rfl #[] rfl (by (try simp only [List.map_toArray, List.map_cons, List.map_nil]); first | done | rfl | (simp only [List.length_drop, List.length_take]; rfl)) ?_; (with_reducible refine (terrierlaw13_lives.calls k  false _ A6.out).mono ?_); rintro e w21 ⟨rfl, hb⟩; refine ⟨_, rfl, ?_⟩; have n0_ := Aside0.mk (blk_below BK493.out hb); have n1_ := Aside0.mk (blk_below BK494.out hb); have n2_ := Aside0.mk (below_step (by repeat (first | (with_reducible first | exact HB.out | apply below_alloc | apply pw_below_drewN | apply below_drew1 | refine below_set ?_ GE493.out | refine below_set ?_ GE494.out) | exact HB.out | exact Below.refl _ _)) hb); clear BK493; clear BK494; clear HB; have BK493 := n0_; have BK494 := n1_; have HB := n2_; clear n0_ n1_ n2_; (try clear hb); (try clear hb2); (try clear hk); (try clear hi)))
   go_meet
   case rel => exact ⟨_, (true), (by first | rfl | (simp; done) | (simp [*]; done)), H', ⟨by first | omega | exact Nat.le_refl _⟩, ⟨by exact BK493.out⟩, ⟨by exact BK494.out⟩, ⟨by repeat (first | (with_reducible first | exact HB.out | apply below_alloc | apply pw_below_drewN | apply below_drew1 | refine below_set ?_ GE493.out | refine below_set ?_ GE494.out) | exact HB.out | exact Below.refl _ _)⟩⟩
 case rest =>
  clear HC3
  try clear c1
  try clear p2
  try clear c6
  try clear c7
  try clear c9
  try clear c12
  try clear c18
  try clear hcz13_0
  try clear hcz13_1
  try clear hcz13_2
  try clear hcz13_3
  try clear hcz13_4
  try clear hcz13_5
  try clear hcz15_0
  try clear hcz15_1
  try clear hcz15_2
  try clear hcz15_3
  try clear hcz15_4
  try clear hcz15_5
  try clear hcz19_0
  try clear hcz19_1
  try clear hcz19_2
  try clear hcz19_3
  try clear hcz19_4
  try clear hcz19_5
  try clear hfz13_0
  try clear hfz13_1
  try clear hfz13_2
  try clear hfz13_3
  try clear hfz13_4
  try clear hfz13_5
  try clear hfz15_0
  try clear hfz15_1
  try clear hfz15_2
  try clear hfz15_3
  try clear hfz15_4
  try clear hfz15_5
  try clear hfz19_0
  try clear hfz19_1
  try clear hfz19_2
  try clear hfz19_3
  try clear hfz19_4
  try clear hfz19_5
  obtain ⟨kq, x28_2, rfl, HA, HJ2, BK493, BK494, HB⟩ := hcut
  cases kq with
  | zero => exact absurd HA.out (by simp [terrierlaw13_RecordBack.j0])
  | succ kj2 =>
   have H := HA.out
   clear HA
   simp only [terrierlaw13_RecordBack.j0] at H
   by_cases c22 : x28_2 = true
   ·
    subst c22
    have H1 : ((terrierlaw13_lives.f kj2).bind fun t498 => (some t498)) = some r := by rw [if_pos rfl] at H; exact H
    clear H
    have H := H1
    clear H1
    replace H := Option.bind_eq_some_iff.mp H
    obtain ⟨t498, A230, H⟩ := H
    replace H : (some t498) = some r := H
    have A23 := Aside0.mk A230
    clear A230
    obtain rfl := Option.some.inj H
    go_wp2_with (first | ((with_reducible refine gate_callee (f := 7) rfl ?_); refine goesL_ (some 29) rfl rfl Try.func7 (by kernel_rfl) rfl #[] rfl (by (try simp only [List.map_toArray, List.map_cons, List.map_nil]); first | done | rfl | (simp only [List.length_drop, List.length_take]; rfl)) ?_; (with_reducible refine (terrierlaw13_lives.calls kj2  t498 _ A23.out).mono ?_); rintro e w24 ⟨rfl, hb⟩; refine ⟨_, rfl, ?_⟩; have n0_ := Aside0.mk (blk_below BK493.out hb); have n1_ := Aside0.mk (blk_below BK494.out hb); have n2_ := Aside0.mk (below_step (by repeat (first | (with_reducible first | exact HB.out | apply below_alloc | apply pw_below_drewN | apply below_drew1 | refine below_set ?_ GE493.out | refine below_set ?_ GE494.out) | exact HB.out | exact Below.refl _ _)) hb); clear BK493; clear BK494; clear HB; have BK493 := n0_; have BK494 := n1_; have HB := n2_; clear n0_ n1_ n2_; (try clear hb); (try clear hb2); (try clear hk); (try clear hi)))
    go_ret
    exact ⟨by first | rfl | (simp [errW_none, errW_some] <;> rfl) | (simp [*, errW_none, errW_some] <;> rfl), by repeat (first | (with_reducible first | exact HB.out | apply below_alloc | apply pw_below_drewN | apply below_drew1 | refine below_set ?_ GE493.out | refine below_set ?_ GE494.out) | exact HB.out | exact Below.refl _ _)⟩
   ·
    replace c22 := Bool.eq_false_iff.mpr c22
    subst c22
    have H1 : ((record_Encode.f kj2 l0_0 l0_1 a0_2 a0_3 a0_4 a0_5).bind fun bt499 => ((record_Tomb.f kj2 l0_0).bind fun bt503 => (if bt503.2 = 0 then ((record_Decode.f kj2 bt503.1).bind fun bt507 => (if bt507.2.2.2.2.2.2.2 = 0 then (if bt507.2.2.2.2.2.2.1 = true then ((terrierref01_Same.f bt507.1 l0_0).bind fun t520 => (if t520 = true then (if bt507.2.2.2.1 = 0 then ((terrierref01_Same.f bt503.1 bt499.1).bind fun t521 => (if t521 = true then (some false) else (terrierlaw13_RecordBack.j1 kj2 bt499.1 bt499.2 l0_0 l0_1 a0_2 a0_3 a0_4 a0_5 l1_0 l1_1 a1_2 a1_3 a1_4 a1_5))) else (some false)) else (some false))) else (some false)) else (some false))) else (terrierlaw13_RecordBack.j1 kj2 bt499.1 bt499.2 l0_0 l0_1 a0_2 a0_3 a0_4 a0_5 l1_0 l1_1 a1_2 a1_3 a1_4 a1_5)))) = some r := by rw [if_neg (show ¬ (false = true) by decide)] at H; exact H
    clear H
    have H := H1
    clear H1
    replace H := Option.bind_eq_some_iff.mp H
    obtain ⟨⟨t499, t502⟩, A250, H⟩ := H
    replace H : ((record_Tomb.f kj2 l0_0).bind fun bt503 => (if bt503.2 = 0 then ((record_Decode.f kj2 bt503.1).bind fun bt507 => (if bt507.2.2.2.2.2.2.2 = 0 then (if bt507.2.2.2.2.2.2.1 = true then ((terrierref01_Same.f bt507.1 l0_0).bind fun t520 => (if t520 = true then (if bt507.2.2.2.1 = 0 then ((terrierref01_Same.f bt503.1 t499).bind fun t521 => (if t521 = true then (some false) else (terrierlaw13_RecordBack.j1 kj2 t499 t502 l0_0 l0_1 a0_2 a0_3 a0_4 a0_5 l1_0 l1_1 a1_2 a1_3 a1_4 a1_5))) else (some false)) else (some false))) else (some false)) else (some false))) else (terrierlaw13_RecordBack.j1 kj2 t499 t502 l0_0 l0_1 a0_2 a0_3 a0_4 a0_5 l1_0 l1_1 a1_2 a1_3 a1_4 a1_5))) = some r := H
    have A25 := Aside0.mk A250
    clear A250
    replace H := Option.bind_eq_some_iff.mp H
    obtain ⟨⟨t503, t504⟩, A260, H⟩ := H
    replace H : (if t504 = 0 then ((record_Decode.f kj2 t503).bind fun bt507 => (if bt507.2.2.2.2.2.2.2 = 0 then (if bt507.2.2.2.2.2.2.1 = true then ((terrierref01_Same.f bt507.1 l0_0).bind fun t520 => (if t520 = true then (if bt507.2.2.2.1 = 0 then ((terrierref01_Same.f t503 t499).bind fun t521 => (if t521 = true then (some false) else (terrierlaw13_RecordBack.j1 kj2 t499 t502 l0_0 l0_1 a0_2 a0_3 a0_4 a0_5 l1_0 l1_1 a1_2 a1_3 a1_4 a1_5))) else (some false)) else (some false))) else (some false)) else (some false))) else (terrierlaw13_RecordBack.j1 kj2 t499 t502 l0_0 l0_1 a0_2 a0_3 a0_4 a0_5 l1_0 l1_1 a1_2 a1_3 a1_4 a1_5)) = some r := H
    have A26 := Aside0.mk A260
    clear A260
    have HC27 := Aside0.mk H
    clear H
    have hnb28 := NB493_494.out
    have hnc28 := NB494_493.out
    have hcz29_0 : wc.cell? ⟨gb493, 0, none⟩ = some (.slice A0_0 l0_0.length c0_0) := (blk_cell BK493.out 0).trans rfl
    have hcz29_1 : wc.cell? ⟨gb493, 1, none⟩ = some (.slice A0_1 l0_1.length c0_1) := (blk_cell BK493.out 1).trans rfl
    have hcz29_2 : wc.cell? ⟨gb493, 2, none⟩ = some (.int .i64 a0_2) := (blk_cell BK493.out 2).trans rfl
    have hcz29_3 : wc.cell? ⟨gb493, 3, none⟩ = some (.int .i64 a0_3) := (blk_cell BK493.out 3).trans rfl
    have hcz29_4 : wc.cell? ⟨gb493, 4, none⟩ = some (.int .i64 a0_4) := (blk_cell BK493.out 4).trans rfl
    have hcz29_5 : wc.cell? ⟨gb493, 5, none⟩ = some (.int .i64 a0_5) := (blk_cell BK493.out 5).trans rfl
    have hfz29_0 := blk_frozen BK493.out 0
    have hfz29_1 := blk_frozen BK493.out 1
    have hfz29_2 := blk_frozen BK493.out 2
    have hfz29_3 := blk_frozen BK493.out 3
    have hfz29_4 := blk_frozen BK493.out 4
    have hfz29_5 := blk_frozen BK493.out 5
    go_upto_if 42 with (first | ((with_reducible refine gate_callee (f := 10) rfl ?_); refine goesL_ (some 32) rfl rfl Try.func10 (by kernel_rfl) rfl #[.agg #[.slice A0_0 l0_0.length c0_0, .slice A0_1 l0_1.length c0_1, .int .i64 a0_2, .int .i64 a0_3, .int .i64 a0_4, .int .i64 a0_5]] rfl (by (try simp only [List.map_toArray, List.map_cons, List.map_nil]); first | done | rfl | (simp only [List.length_drop, List.length_take]; rfl)) ?_; (with_reducible refine (record_Encode.calls kj2 _ _ l0_0 _ _ l0_1 a0_2 a0_3 a0_4 a0_5 t499 t502 _ ?side1 ?side2 ?side3 ?side4 A25.out).mono ?_); (case side1 => repeat (first | exact (Kd.C_below HR0_0.out HB.out) | exact HR0_0.out | (with_reducible refine Kd.C_alloc ?_ _) | (with_reducible refine Kd.C_drewN ?_ _) | (with_reducible refine Kd.C_drew ?_))); (case side2 => exact HC0_0.out); (case side3 => repeat (first | exact (Kd.C_below HR0_1.out HB.out) | exact HR0_1.out | (with_reducible refine Kd.C_alloc ?_ _) | (with_reducible refine Kd.C_drewN ?_ _) | (with_reducible refine Kd.C_drew ?_))); (case side4 => exact HC0_1.out); rintro e w30 ⟨v500, rfl, ho0, hb⟩; refine ⟨_, rfl, ?_⟩; have n0_ := Aside0.mk (Kd.R_lower ho0 (below_size (by repeat (first | (with_reducible first | exact HB.out | apply below_alloc | apply pw_below_drewN | apply below_drew1 | refine below_set ?_ GE493.out | refine below_set ?_ GE494.out) | exact HB.out | exact Below.refl _ _)))); have n1_ := Aside0.mk (blk_below BK493.out hb); have n2_ := Aside0.mk (blk_below BK494.out hb); have n3_ := Aside0.mk (below_step (by repeat (first | (with_reducible first | exact HB.out | apply below_alloc | apply pw_below_drewN | apply below_drew1 | refine below_set ?_ GE493.out | refine below_set ?_ GE494.out) | exact HB.out | exact Below.refl _ _)) hb); clear BK493; clear BK494; clear HB; have HO501 := n0_; have BK493 := n1_; have BK494 := n2_; have HB := n3_; clear n0_ n1_ n2_ n3_; (try clear hb); (try clear hb2); (try clear hk); (try clear hi); (try clear ho0); have hcz31_0 : w30.cell? ⟨gb493, 0, none⟩ = some (.slice A0_0 l0_0.length c0_0) := (blk_cell BK493.out 0).trans rfl; have hcz31_1 : w30.cell? ⟨gb493, 1, none⟩ = some (.slice A0_1 l0_1.length c0_1) := (blk_cell BK493.out 1).trans rfl; have hcz31_2 : w30.cell? ⟨gb493, 2, none⟩ = some (.int .i64 a0_2) := (blk_cell BK493.out 2).trans rfl; have hcz31_3 : w30.cell? ⟨gb493, 3, none⟩ = some (.int .i64 a0_3) := (blk_cell BK493.out 3).trans rfl; have hcz31_4 : w30.cell? ⟨gb493, 4, none⟩ = some (.int .i64 a0_4) := (blk_cell BK493.out 4).trans rfl; have hcz31_5 : w30.cell? ⟨gb493, 5, none⟩ = some (.int .i64 a0_5) := (blk_cell BK493.out 5).trans rfl; have hfz31_0 := blk_frozen BK493.out 0; have hfz31_1 := blk_frozen BK493.out 1; have hfz31_2 := blk_frozen BK493.out 2; have hfz31_3 := blk_frozen BK493.out 3; have hfz31_4 := blk_frozen BK493.out 4; have hfz31_5 := blk_frozen BK493.out 5) | ((with_reducible refine gate_callee (f := 11) rfl ?_); refine goesL_ (some 38) rfl rfl Try.func11 (by kernel_rfl) rfl #[.slice A0_0 l0_0.length c0_0] rfl (by (try simp only [List.map_toArray, List.map_cons, List.map_nil]); first | done | rfl | (simp only [List.length_drop, List.length_take]; rfl)) ?_; (with_reducible refine (record_Tomb.calls kj2 _ _ l0_0 t503 t504 _ ?side1 ?side2 A26.out).mono ?_); (case side1 => repeat (first | exact (Kd.C_below HR0_0.out HB.out) | exact HR0_0.out | (with_reducible refine Kd.C_alloc ?_ _) | (with_reducible refine Kd.C_drewN ?_ _) | (with_reducible refine Kd.C_drew ?_))); (case side2 => exact HC0_0.out); rintro e w32 ⟨v505, rfl, ho0, hb⟩; refine ⟨_, rfl, ?_⟩; have n0_ := Aside0.mk (Kd.R_elder' (by (with_reducible repeat (first | apply Kd.R_alloc | apply Kd.R_drewN | apply Kd.R_drew)); exact HO501.out) (Kd.R_base ho0) hb); have n1_ := Aside0.mk (Kd.R_lower (Kd.R_new' ho0 (Kd.R_lt (by (with_reducible repeat (first | apply Kd.R_alloc | apply Kd.R_drewN | apply Kd.R_drew)); exact HO501.out))) (below_size (by repeat (first | (with_reducible first | exact HB.out | apply below_alloc | apply pw_below_drewN | apply below_drew1 | refine below_set ?_ GE493.out | refine below_set ?_ GE494.out) | exact HB.out | exact Below.refl _ _)))); have n2_ := Aside0.mk (blk_below BK493.out hb); have n3_ := Aside0.mk (blk_below BK494.out hb); have n4_ := Aside0.mk (below_step (by repeat (first | (with_reducible first | exact HB.out | apply below_alloc | apply pw_below_drewN | apply below_drew1 | refine below_set ?_ GE493.out | refine below_set ?_ GE494.out) | exact HB.out | exact Below.refl _ _)) hb); clear HO501; clear BK493; clear BK494; clear HB; have HO501 := n0_; have HO506 := n1_; have BK493 := n2_; have BK494 := n3_; have HB := n4_; clear n0_ n1_ n2_ n3_ n4_; (try clear hb); (try clear hb2); (try clear hk); (try clear hi); (try clear ho0)))
    (try simp only [Act.put, List.setIfInBounds_toArray, List.set_cons_zero, List.set_cons_succ])
    go_cut [] (fun wc => ∃ (kq : Nat), Aside0 (terrierlaw13_RecordBack.j1 kq t499 t502 l0_0 l0_1 a0_2 a0_3 a0_4 a0_5 l1_0 l1_1 a1_2 a1_3 a1_4 a1_5 = some r) ∧ Aside0 (kq ≤ kj2) ∧ Aside0 (Kd.R (Kd.int .u8) 5 wc w.heap.size (fun _ => True) v500 t499) ∧ Aside0 (wc.heap[gb493]? = some (.cells #[(.slice A0_0 l0_0.length c0_0), (.slice A0_1 l0_1.length c0_1), .int .i64 a0_2, .int .i64 a0_3, .int .i64 a0_4, .int .i64 a0_5] 24 (0, 0))) ∧ Aside0 (wc.heap[gb494]? = some (.cells #[(.slice A1_0 l1_0.length c1_0), (.slice A1_1 l1_1.length c1_1), .int .i64 a1_2, .int .i64 a1_3, .int .i64 a1_4, .int .i64 a1_5] 24 (0, 0))) ∧ Aside0 (Below w.heap.size w wc))
    case first =>
     have H := HC27.out
     clear HC27
     by_cases c33 : t504 = 0
     ·
      rw [if_pos c33] at H
      have c33b0 : (t504 == 0) = true := beq_iff_eq.mpr c33
      have c33b1 : (t504 != 0) = false := bne_eq_false_iff_eq.mpr c33
      clear c33
      (first | rw [c33b0] | (simp only [i64_w, i32_w]; rw [c33b0]) | skip)
      replace H := Option.bind_eq_some_iff.mp H
      obtain ⟨⟨t507, t510, t513, t514, t515, t516, t517, t518⟩, A340, H⟩ := H
      replace H : (if t518 = 0 then (if t517 = true then ((terrierref01_Same.f t507 l0_0).bind fun t520 => (if t520 = true then (if t514 = 0 then ((terrierref01_Same.f t503 t499).bind fun t521 => (if t521 = true then (some false) else (terrierlaw13_RecordBack.j1 kj2 t499 t502 l0_0 l0_1 a0_2 a0_3 a0_4 a0_5 l1_0 l1_1 a1_2 a1_3 a1_4 a1_5))) else (some false)) else (some false))) else (some false)) else (some false)) = some r := H
      have A34 := Aside0.mk A340
      clear A340
      by_cases c35 : t518 = 0
      ·
       rw [if_pos c35] at H
       have c35b0 : (t518 == 0) = true := beq_iff_eq.mpr c35
       have c35b1 : (t518 != 0) = false := bne_eq_false_iff_eq.mpr c35
       clear c35
       by_cases c36 : t517 = true
       ·
        subst c36
        have H1 : ((terrierref01_Same.f t507 l0_0).bind fun t520 => (if t520 = true then (if t514 = 0 then ((terrierref01_Same.f t503 t499).bind fun t521 => (if t521 = true then (some false) else (terrierlaw13_RecordBack.j1 kj2 t499 t502 l0_0 l0_1 a0_2 a0_3 a0_4 a0_5 l1_0 l1_1 a1_2 a1_3 a1_4 a1_5))) else (some false)) else (some false))) = some r := by rw [if_pos rfl] at H; exact H
        clear H
        have H := H1
        clear H1
        replace H := Option.bind_eq_some_iff.mp H
        obtain ⟨t520, A370, H⟩ := H
        replace H : (if t520 = true then (if t514 = 0 then ((terrierref01_Same.f t503 t499).bind fun t521 => (if t521 = true then (some false) else (terrierlaw13_RecordBack.j1 kj2 t499 t502 l0_0 l0_1 a0_2 a0_3 a0_4 a0_5 l1_0 l1_1 a1_2 a1_3 a1_4 a1_5))) else (some false)) else (some false)) = some r := H
        have A37 := Aside0.mk A370
        clear A370
        by_cases c38 : t520 = true
        ·
         subst c38
         have H1 : (if t514 = 0 then ((terrierref01_Same.f t503 t499).bind fun t521 => (if t521 = true then (some false) else (terrierlaw13_RecordBack.j1 kj2 t499 t502 l0_0 l0_1 a0_2 a0_3 a0_4 a0_5 l1_0 l1_1 a1_2 a1_3 a1_4 a1_5))) else (some false)) = some r := by rw [if_pos rfl] at H; exact H
         clear H
         have H := H1
         clear H1
         by_cases c39 : t514 = 0
         ·
          rw [if_pos c39] at H
          have c39b0 : (t514 == 0) = true := beq_iff_eq.mpr c39
          have c39b1 : (t514 != 0) = false := bne_eq_false_iff_eq.mpr c39
          clear c39
          replace H := Option.bind_eq_some_iff.mp H
          obtain ⟨t521, A400, H⟩ := H
          replace H : (if t521 = true then (some false) else (terrierlaw13_RecordBack.j1 kj2 t499 t502 l0_0 l0_1 a0_2 a0_3 a0_4 a0_5 l1_0 l1_1 a1_2 a1_3 a1_4 a1_5)) = some r := H
          have A40 := Aside0.mk A400
          clear A400
          by_cases c41 : t521 = true
          ·
           subst c41
           have H1 : (some false) = some r := by rw [if_pos rfl] at H; exact H
           clear H
           have H := H1
           clear H1
           obtain rfl := Option.some.inj H
           obtain ⟨Ao42, co42, eo42⟩ := Kd.R_slice HO506.out
           subst eo42
           go_wp2_with (first | ((with_reducible refine gate_callee (f := 21) rfl ?_); refine goesL_ (some 45) rfl rfl Try.func21 (by kernel_rfl) rfl #[.slice Ao42 t503.length co42] rfl (by (try simp only [List.map_toArray, List.map_cons, List.map_nil]); first | done | rfl | (simp only [List.length_drop, List.length_take]; rfl)) ?_; (with_reducible refine (record_Decode.calls kj2 _ _ t503 t507 t510 t513 t514 t515 t516 true t518 _ ?side1 ?side2 A34.out).mono ?_); (case side1 => repeat (first | exact (Kd.R_reads' HO506.out).2.2 | (with_reducible refine Kd.C_alloc ?_ _) | (with_reducible refine Kd.C_drewN ?_ _) | (with_reducible refine Kd.C_drew ?_))); (case side2 => exact (Kd.R_reads' HO506.out).2.1); rintro e w43 ⟨v508, v511, rfl, ho0, ho1, hb⟩; refine ⟨_, rfl, ?_⟩; have n0_ := Aside0.mk (Kd.R_mono (Kd.R_told (Kd.R_told (Kd.R_old (by (with_reducible repeat (first | apply Kd.R_alloc | apply Kd.R_drewN | apply Kd.R_drew)); exact HO501.out) hb) (Kd.R_base ho0)) (Kd.R_base ho1)) (fun _ h_ => h_.1)); have n1_ := Aside0.mk (Kd.R_mono (Kd.R_told (Kd.R_told (Kd.R_old (by (with_reducible repeat (first | apply Kd.R_alloc | apply Kd.R_drewN | apply Kd.R_drew)); exact HO506.out) hb) (Kd.R_base ho0)) (Kd.R_base ho1)) (fun _ h_ => h_.1)); have n2_ := Aside0.mk (Kd.R_lower (Kd.R_new' (Kd.R_new' ho0 (Kd.R_lt (by (with_reducible repeat (first | apply Kd.R_alloc | apply Kd.R_drewN | apply Kd.R_drew)); exact HO501.out))) (Kd.R_lt (by (with_reducible repeat (first | apply Kd.R_alloc | apply Kd.R_drewN | apply Kd.R_drew)); exact HO506.out))) (below_size (by repeat (first | (with_reducible first | exact HB.out | apply below_alloc | apply pw_below_drewN | apply below_drew1 | refine below_set ?_ GE493.out | refine below_set ?_ GE494.out) | exact HB.out | exact Below.refl _ _)))); have n3_ := Aside0.mk (Kd.R_lower (Kd.R_new' (Kd.R_new' ho1 (Kd.R_lt (by (with_reducible repeat (first | apply Kd.R_alloc | apply Kd.R_drewN | apply Kd.R_drew)); exact HO501.out))) (Kd.R_lt (by (with_reducible repeat (first | apply Kd.R_alloc | apply Kd.R_drewN | apply Kd.R_drew)); exact HO506.out))) (below_size (by repeat (first | (with_reducible first | exact HB.out | apply below_alloc | apply pw_below_drewN | apply below_drew1 | refine below_set ?_ GE493.out | refine below_set ?_ GE494.out) | exact HB.out | exact Below.refl _ _)))); have n4_ := Aside0.mk (blk_below BK493.out hb); have n5_ := Aside0.mk (blk_below BK494.out hb); have n6_ := Aside0.mk (below_step (by repeat (first | (with_reducible first | exact HB.out | apply below_alloc | apply pw_below_drewN | apply below_drew1 | refine below_set ?_ GE493.out | refine below_set ?_ GE494.out) | exact HB.out | exact Below.refl _ _)) hb); clear HO501; clear HO506; clear BK493; clear BK494; clear HB; have HO501 := n0_; have HO506 := n1_; have HO509 := n2_; have HO512 := n3_; have BK493 := n4_; have BK494 := n5_; have HB := n6_; clear n0_ n1_ n2_ n3_ n4_ n5_ n6_; (try clear hb); (try clear hb2); (try clear hk); (try clear hi); (try clear ho0); (try clear ho1)) | ((with_reducible refine gate_dst (N := 9) rfl ?_); refine box_event ?hg (N := 9) ?hd (cs := #[.slice none 0 0, .slice none 0 0, .int .i64 0, .int .i64 0, .int .i64 0, .int .i64 0]) (t := 24) ?hr ?_; (case hd => rfl); (case hg => rfl); (case hr => first | (go_simp; done) | (go_simp; rfl)); intro gb519 hg w44 hbox hb; have n0_ := Aside0.mk (Kd.R_below (by (with_reducible repeat (first | apply Kd.R_alloc | apply Kd.R_drewN | apply Kd.R_drew)); exact HO501.out) hb); have n1_ := Aside0.mk (Kd.R_below (by (with_reducible repeat (first | apply Kd.R_alloc | apply Kd.R_drewN | apply Kd.R_drew)); exact HO506.out) hb); have n2_ := Aside0.mk (Kd.R_below (by (with_reducible repeat (first | apply Kd.R_alloc | apply Kd.R_drewN | apply Kd.R_drew)); exact HO509.out) hb); have n3_ := Aside0.mk (Kd.R_below (by (with_reducible repeat (first | apply Kd.R_alloc | apply Kd.R_drewN | apply Kd.R_drew)); exact HO512.out) hb); have n4_ := Aside0.mk (blk_below BK493.out hb); have n5_ := Aside0.mk (blk_below BK494.out hb); have n6_ := Aside0.mk (below_step (by repeat (first | (with_reducible first | exact HB.out | apply below_alloc | apply pw_below_drewN | apply below_drew1 | refine below_set ?_ GE493.out | refine below_set ?_ GE494.out) | exact HB.out | exact Below.refl _ _)) hb); have n7_ := Aside0.mk (hbox); have n8_ := Aside0.mk ((by rw [hg]; exact (below_size (by repeat (first | (with_reducible first | exact HB.out | apply below_alloc | apply pw_below_drewN | apply below_drew1 | refine below_set ?_ GE493.out | refine below_set ?_ GE494.out) | exact HB.out | exact Below.refl _ _))) : w.heap.size ≤ gb519)); have n9_ := Aside0.mk ((by rw [hg]; exact (below_size (by repeat (first | (with_reducible first | exact HB.out | apply below_alloc | apply pw_below_drewN | apply below_drew1 | refine below_set ?_ GE493.out | refine below_set ?_ GE494.out) | exact HB.out | exact Below.refl _ _))) : w.heap.size ≤ gb519)); have n10_ := Aside0.mk ((by rw [hg]; exact Nat.ne_of_lt (blk_lt BK493.out) : gb493 ≠ gb519)); have n11_ := Aside0.mk ((by rw [hg]; exact Nat.ne_of_gt (blk_lt BK493.out) : gb519 ≠ gb493)); have n12_ := Aside0.mk ((by rw [hg]; exact Nat.ne_of_lt (blk_lt BK494.out) : gb494 ≠ gb519)); have n13_ := Aside0.mk ((by rw [hg]; exact Nat.ne_of_gt (blk_lt BK494.out) : gb519 ≠ gb494)); clear HO501; clear HO506; clear HO509; clear HO512; clear BK493; clear BK494; clear HB; have HO501 := n0_; have HO506 := n1_; have HO509 := n2_; have HO512 := n3_; have BK493 := n4_; have BK494 := n5_; have HB := n6_; have BK519 := n7_; have GW519 := n8_; have GE519 := n9_; have NB493_519 := n10_; have NB519_493 := n11_; have NB494_519 := n12_; have NB519_494 := n13_; clear n0_ n1_ n2_ n3_ n4_ n5_ n6_ n7_ n8_ n9_ n10_ n11_ n12_ n13_; clear hb hbox hg; obtain ⟨Ao45, co45, eo45⟩ := Kd.R_slice HO509.out; subst eo45; have hnb46 := NB519_493.out; have hnc46 := NB493_519.out; have hnb47 := NB519_494.out; have hnc47 := NB494_519.out; have hcz48_0 : w44.cell? ⟨gb519, 0, none⟩ = some (.slice none 0 0) := (blk_cell BK519.out 0).trans rfl; have hcz48_1 : w44.cell? ⟨gb519, 1, none⟩ = some (.slice none 0 0) := (blk_cell BK519.out 1).trans rfl; have hcz48_2 : w44.cell? ⟨gb519, 2, none⟩ = some (.int .i64 0) := (blk_cell BK519.out 2).trans rfl; have hcz48_3 : w44.cell? ⟨gb519, 3, none⟩ = some (.int .i64 0) := (blk_cell BK519.out 3).trans rfl; have hcz48_4 : w44.cell? ⟨gb519, 4, none⟩ = some (.int .i64 0) := (blk_cell BK519.out 4).trans rfl; have hcz48_5 : w44.cell? ⟨gb519, 5, none⟩ = some (.int .i64 0) := (blk_cell BK519.out 5).trans rfl; have hfz48_0 := blk_frozen BK519.out 0; have hfz48_1 := blk_frozen BK519.out 1; have hfz48_2 := blk_frozen BK519.out 2; have hfz48_3 := blk_frozen BK519.out 3; have hfz48_4 := blk_frozen BK519.out 4; have hfz48_5 := blk_frozen BK519.out 5; obtain ⟨Ao49, co49, eo49⟩ := Kd.R_slice HO512.out; subst eo49; have hnb50 := NB493_494.out; have hnc50 := NB494_493.out; have hcz51_0 : w44.cell? ⟨gb493, 0, none⟩ = some (.slice A0_0 l0_0.length c0_0) := (blk_cell BK493.out 0).trans rfl; have hcz51_1 : w44.cell? ⟨gb493, 1, none⟩ = some (.slice A0_1 l0_1.length c0_1) := (blk_cell BK493.out 1).trans rfl; have hcz51_2 : w44.cell? ⟨gb493, 2, none⟩ = some (.int .i64 a0_2) := (blk_cell BK493.out 2).trans rfl; have hcz51_3 : w44.cell? ⟨gb493, 3, none⟩ = some (.int .i64 a0_3) := (blk_cell BK493.out 3).trans rfl; have hcz51_4 : w44.cell? ⟨gb493, 4, none⟩ = some (.int .i64 a0_4) := (blk_cell BK493.out 4).trans rfl; have hcz51_5 : w44.cell? ⟨gb493, 5, none⟩ = some (.int .i64 a0_5) := (blk_cell BK493.out 5).trans rfl; have hfz51_0 := blk_frozen BK493.out 0; have hfz51_1 := blk_frozen BK493.out 1; have hfz51_2 := blk_frozen BK493.out 2; have hfz51_3 := blk_frozen BK493.out 3; have hfz51_4 := blk_frozen BK493.out 4; have hfz51_5 := blk_frozen BK493.out 5) | (go_at_call 15; (with_reducible refine (terrierref01_Same.calls _ _ t507 _ _ l0_0 true _ ?side1 ?side2 ?side3 ?side4 A37.out).mono ?_); (case side1 => refine (Kd.R_reads' (e := 5) (base := w.heap.size) (ok := fun k_ => ((some k_ ≠ (.slice Ao49 t510.length co49 : Value).ownBlock ∧ some k_ ≠ (v500 : Value).ownBlock) ∧ some k_ ≠ (.slice Ao42 t503.length co42 : Value).ownBlock)) (n := t507.length) (c := co45) ?_).2.2; exact (by (with_reducible repeat (first | apply Kd.R_alloc | apply Kd.R_drewN | apply Kd.R_drew)); exact (Kd.R_mono (Kd.R_far (p := ⟨gb519, 5, none⟩) (Kd.R_far (p := ⟨gb519, 4, none⟩) (Kd.R_far (p := ⟨gb519, 3, none⟩) (Kd.R_far (p := ⟨gb519, 2, none⟩) (Kd.R_far (p := ⟨gb519, 1, none⟩) (Kd.R_far (p := ⟨gb519, 0, none⟩) (Kd.R_types HO509.out BK519.out (by decide)) (fun _ hk => hk.2) (.slice Ao45 t507.length co45)) (fun _ hk => hk.2) (.slice Ao49 t510.length co49)) (fun _ hk => hk.2) (.int .i64 t513)) (fun _ hk => hk.2) (.int .i64 t514)) (fun _ hk => hk.2) (.int .i64 t515)) (fun _ hk => hk.2) (.int .i64 t516)) (fun _ h_ => h_.1)))); (case side2 => exact (Kd.R_reads' HO509.out).2.1); (case side3 => exact Kd.C_below HR0_0.out (by repeat (first | (with_reducible first | exact HB.out | apply below_alloc | apply pw_below_drewN | apply below_drew1 | refine below_set ?_ GE493.out | refine below_set ?_ GE494.out | refine below_set ?_ GE519.out) | exact HB.out | exact Below.refl _ _))); (case side4 => exact HC0_0.out); rintro e w' ⟨rfl, ⟨nd, rfl⟩⟩; obtain ⟨Ao52, co52, eo52⟩ := Kd.R_slice HO501.out; subst eo52) | (go_at_call 15; (with_reducible refine (terrierref01_Same.calls _ _ t503 _ _ t499 true _ ?side1 ?side2 ?side3 ?side4 A40.out).mono ?_); (case side1 => refine (Kd.R_reads' (e := 5) (base := w.heap.size) (ok := fun k_ => (((True ∧ some k_ ≠ (.slice Ao52 t499.length co52 : Value).ownBlock) ∧ some k_ ≠ (.slice Ao45 t507.length co45 : Value).ownBlock) ∧ some k_ ≠ (.slice Ao49 t510.length co49 : Value).ownBlock)) (n := t503.length) (c := co42) ?_).2.2; exact (by (with_reducible repeat (first | apply Kd.R_alloc | apply Kd.R_drewN | apply Kd.R_drew)); exact (Kd.R_mono (Kd.R_far (p := ⟨gb519, 5, none⟩) (Kd.R_far (p := ⟨gb519, 4, none⟩) (Kd.R_far (p := ⟨gb519, 3, none⟩) (Kd.R_far (p := ⟨gb519, 2, none⟩) (Kd.R_far (p := ⟨gb519, 1, none⟩) (Kd.R_far (p := ⟨gb519, 0, none⟩) (Kd.R_types HO506.out BK519.out (by decide)) (fun _ hk => hk.2) (.slice Ao45 t507.length co45)) (fun _ hk => hk.2) (.slice Ao49 t510.length co49)) (fun _ hk => hk.2) (.int .i64 t513)) (fun _ hk => hk.2) (.int .i64 t514)) (fun _ hk => hk.2) (.int .i64 t515)) (fun _ hk => hk.2) (.int .i64 t516)) (fun _ h_ => h_.1)))); (case side2 => exact (Kd.R_reads' HO506.out).2.1); (case side3 => refine (Kd.R_reads' (e := 5) (base := w.heap.size) (ok := fun k_ => (((True ∧ some k_ ≠ (.slice Ao42 t503.length co42 : Value).ownBlock) ∧ some k_ ≠ (.slice Ao45 t507.length co45 : Value).ownBlock) ∧ some k_ ≠ (.slice Ao49 t510.length co49 : Value).ownBlock)) (n := t499.length) (c := co52) ?_).2.2; exact (by (with_reducible repeat (first | apply Kd.R_alloc | apply Kd.R_drewN | apply Kd.R_drew)); exact (Kd.R_mono (Kd.R_far (p := ⟨gb519, 5, none⟩) (Kd.R_far (p := ⟨gb519, 4, none⟩) (Kd.R_far (p := ⟨gb519, 3, none⟩) (Kd.R_far (p := ⟨gb519, 2, none⟩) (Kd.R_far (p := ⟨gb519, 1, none⟩) (Kd.R_far (p := ⟨gb519, 0, none⟩) (Kd.R_types HO501.out BK519.out (by decide)) (fun _ hk => hk.2) (.slice Ao45 t507.length co45)) (fun _ hk => hk.2) (.slice Ao49 t510.length co49)) (fun _ hk => hk.2) (.int .i64 t513)) (fun _ hk => hk.2) (.int .i64 t514)) (fun _ hk => hk.2) (.int .i64 t515)) (fun _ hk => hk.2) (.int .i64 t516)) (fun _ h_ => h_.1)))); (case side4 => exact (Kd.R_reads' HO501.out).2.1); rintro e w' ⟨rfl, ⟨nd, rfl⟩⟩))
           go_ret
           exact ⟨by first | rfl | (simp [errW_none, errW_some] <;> rfl) | (simp [*, errW_none, errW_some] <;> rfl), by repeat (first | (with_reducible first | exact HB.out | apply below_alloc | apply pw_below_drewN | apply below_drew1 | refine below_set ?_ GE493.out | refine below_set ?_ GE494.out | refine below_set ?_ GE519.out) | exact HB.out | exact Below.refl _ _)⟩
          ·
           replace c41 := Bool.eq_false_iff.mpr c41
           subst c41
           have H1 : (terrierlaw13_RecordBack.j1 kj2 t499 t502 l0_0 l0_1 a0_2 a0_3 a0_4 a0_5 l1_0 l1_1 a1_2 a1_3 a1_4 a1_5) = some r := by rw [if_neg (show ¬ (false = true) by decide)] at H; exact H
           clear H
           have H := H1
           clear H1
           have H' := Aside0.mk H
           clear H
           obtain ⟨Ao53, co53, eo53⟩ := Kd.R_slice HO506.out
           subst eo53
           go_wp2_with (first | ((with_reducible refine gate_callee (f := 21) rfl ?_); refine goesL_ (some 45) rfl rfl Try.func21 (by kernel_rfl) rfl #[.slice Ao53 t503.length co53] rfl (by (try simp only [List.map_toArray, List.map_cons, List.map_nil]); first | done | rfl | (simp only [List.length_drop, List.length_take]; rfl)) ?_; (with_reducible refine (record_Decode.calls kj2 _ _ t503 t507 t510 t513 t514 t515 t516 true t518 _ ?side1 ?side2 A34.out).mono ?_); (case side1 => repeat (first | exact (Kd.R_reads' HO506.out).2.2 | (with_reducible refine Kd.C_alloc ?_ _) | (with_reducible refine Kd.C_drewN ?_ _) | (with_reducible refine Kd.C_drew ?_))); (case side2 => exact (Kd.R_reads' HO506.out).2.1); rintro e w54 ⟨v508, v511, rfl, ho0, ho1, hb⟩; refine ⟨_, rfl, ?_⟩; have n0_ := Aside0.mk (Kd.R_mono (Kd.R_told (Kd.R_told (Kd.R_old (by (with_reducible repeat (first | apply Kd.R_alloc | apply Kd.R_drewN | apply Kd.R_drew)); exact HO501.out) hb) (Kd.R_base ho0)) (Kd.R_base ho1)) (fun _ h_ => h_.1)); have n1_ := Aside0.mk (Kd.R_mono (Kd.R_told (Kd.R_told (Kd.R_old (by (with_reducible repeat (first | apply Kd.R_alloc | apply Kd.R_drewN | apply Kd.R_drew)); exact HO506.out) hb) (Kd.R_base ho0)) (Kd.R_base ho1)) (fun _ h_ => h_.1)); have n2_ := Aside0.mk (Kd.R_lower (Kd.R_new' (Kd.R_new' ho0 (Kd.R_lt (by (with_reducible repeat (first | apply Kd.R_alloc | apply Kd.R_drewN | apply Kd.R_drew)); exact HO501.out))) (Kd.R_lt (by (with_reducible repeat (first | apply Kd.R_alloc | apply Kd.R_drewN | apply Kd.R_drew)); exact HO506.out))) (below_size (by repeat (first | (with_reducible first | exact HB.out | apply below_alloc | apply pw_below_drewN | apply below_drew1 | refine below_set ?_ GE493.out | refine below_set ?_ GE494.out) | exact HB.out | exact Below.refl _ _)))); have n3_ := Aside0.mk (Kd.R_lower (Kd.R_new' (Kd.R_new' ho1 (Kd.R_lt (by (with_reducible repeat (first | apply Kd.R_alloc | apply Kd.R_drewN | apply Kd.R_drew)); exact HO501.out))) (Kd.R_lt (by (with_reducible repeat (first | apply Kd.R_alloc | apply Kd.R_drewN | apply Kd.R_drew)); exact HO506.out))) (below_size (by repeat (first | (with_reducible first | exact HB.out | apply below_alloc | apply pw_below_drewN | apply below_drew1 | refine below_set ?_ GE493.out | refine below_set ?_ GE494.out) | exact HB.out | exact Below.refl _ _)))); have n4_ := Aside0.mk (blk_below BK493.out hb); have n5_ := Aside0.mk (blk_below BK494.out hb); have n6_ := Aside0.mk (below_step (by repeat (first | (with_reducible first | exact HB.out | apply below_alloc | apply pw_below_drewN | apply below_drew1 | refine below_set ?_ GE493.out | refine below_set ?_ GE494.out) | exact HB.out | exact Below.refl _ _)) hb); clear HO501; clear HO506; clear BK493; clear BK494; clear HB; have HO501 := n0_; have HO506 := n1_; have HO509 := n2_; have HO512 := n3_; have BK493 := n4_; have BK494 := n5_; have HB := n6_; clear n0_ n1_ n2_ n3_ n4_ n5_ n6_; (try clear hb); (try clear hb2); (try clear hk); (try clear hi); (try clear ho0); (try clear ho1)) | ((with_reducible refine gate_dst (N := 9) rfl ?_); refine box_event ?hg (N := 9) ?hd (cs := #[.slice none 0 0, .slice none 0 0, .int .i64 0, .int .i64 0, .int .i64 0, .int .i64 0]) (t := 24) ?hr ?_; (case hd => rfl); (case hg => rfl); (case hr => first | (go_simp; done) | (go_simp; rfl)); intro gb519 hg w55 hbox hb; have n0_ := Aside0.mk (Kd.R_below (by (with_reducible repeat (first | apply Kd.R_alloc | apply Kd.R_drewN | apply Kd.R_drew)); exact HO501.out) hb); have n1_ := Aside0.mk (Kd.R_below (by (with_reducible repeat (first | apply Kd.R_alloc | apply Kd.R_drewN | apply Kd.R_drew)); exact HO506.out) hb); have n2_ := Aside0.mk (Kd.R_below (by (with_reducible repeat (first | apply Kd.R_alloc | apply Kd.R_drewN | apply Kd.R_drew)); exact HO509.out) hb); have n3_ := Aside0.mk (Kd.R_below (by (with_reducible repeat (first | apply Kd.R_alloc | apply Kd.R_drewN | apply Kd.R_drew)); exact HO512.out) hb); have n4_ := Aside0.mk (blk_below BK493.out hb); have n5_ := Aside0.mk (blk_below BK494.out hb); have n6_ := Aside0.mk (below_step (by repeat (first | (with_reducible first | exact HB.out | apply below_alloc | apply pw_below_drewN | apply below_drew1 | refine below_set ?_ GE493.out | refine below_set ?_ GE494.out) | exact HB.out | exact Below.refl _ _)) hb); have n7_ := Aside0.mk (hbox); have n8_ := Aside0.mk ((by rw [hg]; exact (below_size (by repeat (first | (with_reducible first | exact HB.out | apply below_alloc | apply pw_below_drewN | apply below_drew1 | refine below_set ?_ GE493.out | refine below_set ?_ GE494.out) | exact HB.out | exact Below.refl _ _))) : w.heap.size ≤ gb519)); have n9_ := Aside0.mk ((by rw [hg]; exact (below_size (by repeat (first | (with_reducible first | exact HB.out | apply below_alloc | apply pw_below_drewN | apply below_drew1 | refine below_set ?_ GE493.out | refine below_set ?_ GE494.out) | exact HB.out | exact Below.refl _ _))) : w.heap.size ≤ gb519)); have n10_ := Aside0.mk ((by rw [hg]; exact Nat.ne_of_lt (blk_lt BK493.out) : gb493 ≠ gb519)); have n11_ := Aside0.mk ((by rw [hg]; exact Nat.ne_of_gt (blk_lt BK493.out) : gb519 ≠ gb493)); have n12_ := Aside0.mk ((by rw [hg]; exact Nat.ne_of_lt (blk_lt BK494.out) : gb494 ≠ gb519)); have n13_ := Aside0.mk ((by rw [hg]; exact Nat.ne_of_gt (blk_lt BK494.out) : gb519 ≠ gb494)); clear HO501; clear HO506; clear HO509; clear HO512; clear BK493; clear BK494; clear HB; have HO501 := n0_; have HO506 := n1_; have HO509 := n2_; have HO512 := n3_; have BK493 := n4_; have BK494 := n5_; have HB := n6_; have BK519 := n7_; have GW519 := n8_; have GE519 := n9_; have NB493_519 := n10_; have NB519_493 := n11_; have NB494_519 := n12_; have NB519_494 := n13_; clear n0_ n1_ n2_ n3_ n4_ n5_ n6_ n7_ n8_ n9_ n10_ n11_ n12_ n13_; clear hb hbox hg; obtain ⟨Ao56, co56, eo56⟩ := Kd.R_slice HO509.out; subst eo56; have hnb57 := NB519_493.out; have hnc57 := NB493_519.out; have hnb58 := NB519_494.out; have hnc58 := NB494_519.out; have hcz59_0 : w55.cell? ⟨gb519, 0, none⟩ = some (.slice none 0 0) := (blk_cell BK519.out 0).trans rfl; have hcz59_1 : w55.cell? ⟨gb519, 1, none⟩ = some (.slice none 0 0) := (blk_cell BK519.out 1).trans rfl; have hcz59_2 : w55.cell? ⟨gb519, 2, none⟩ = some (.int .i64 0) := (blk_cell BK519.out 2).trans rfl; have hcz59_3 : w55.cell? ⟨gb519, 3, none⟩ = some (.int .i64 0) := (blk_cell BK519.out 3).trans rfl; have hcz59_4 : w55.cell? ⟨gb519, 4, none⟩ = some (.int .i64 0) := (blk_cell BK519.out 4).trans rfl; have hcz59_5 : w55.cell? ⟨gb519, 5, none⟩ = some (.int .i64 0) := (blk_cell BK519.out 5).trans rfl; have hfz59_0 := blk_frozen BK519.out 0; have hfz59_1 := blk_frozen BK519.out 1; have hfz59_2 := blk_frozen BK519.out 2; have hfz59_3 := blk_frozen BK519.out 3; have hfz59_4 := blk_frozen BK519.out 4; have hfz59_5 := blk_frozen BK519.out 5; obtain ⟨Ao60, co60, eo60⟩ := Kd.R_slice HO512.out; subst eo60; have hnb61 := NB493_494.out; have hnc61 := NB494_493.out; have hcz62_0 : w55.cell? ⟨gb493, 0, none⟩ = some (.slice A0_0 l0_0.length c0_0) := (blk_cell BK493.out 0).trans rfl; have hcz62_1 : w55.cell? ⟨gb493, 1, none⟩ = some (.slice A0_1 l0_1.length c0_1) := (blk_cell BK493.out 1).trans rfl; have hcz62_2 : w55.cell? ⟨gb493, 2, none⟩ = some (.int .i64 a0_2) := (blk_cell BK493.out 2).trans rfl; have hcz62_3 : w55.cell? ⟨gb493, 3, none⟩ = some (.int .i64 a0_3) := (blk_cell BK493.out 3).trans rfl; have hcz62_4 : w55.cell? ⟨gb493, 4, none⟩ = some (.int .i64 a0_4) := (blk_cell BK493.out 4).trans rfl; have hcz62_5 : w55.cell? ⟨gb493, 5, none⟩ = some (.int .i64 a0_5) := (blk_cell BK493.out 5).trans rfl; have hfz62_0 := blk_frozen BK493.out 0; have hfz62_1 := blk_frozen BK493.out 1; have hfz62_2 := blk_frozen BK493.out 2; have hfz62_3 := blk_frozen BK493.out 3; have hfz62_4 := blk_frozen BK493.out 4; have hfz62_5 := blk_frozen BK493.out 5) | (go_at_call 15; (with_reducible refine (terrierref01_Same.calls _ _ t507 _ _ l0_0 true _ ?side1 ?side2 ?side3 ?side4 A37.out).mono ?_); (case side1 => refine (Kd.R_reads' (e := 5) (base := w.heap.size) (ok := fun k_ => ((some k_ ≠ (.slice Ao60 t510.length co60 : Value).ownBlock ∧ some k_ ≠ (v500 : Value).ownBlock) ∧ some k_ ≠ (.slice Ao53 t503.length co53 : Value).ownBlock)) (n := t507.length) (c := co56) ?_).2.2; exact (by (with_reducible repeat (first | apply Kd.R_alloc | apply Kd.R_drewN | apply Kd.R_drew)); exact (Kd.R_mono (Kd.R_far (p := ⟨gb519, 5, none⟩) (Kd.R_far (p := ⟨gb519, 4, none⟩) (Kd.R_far (p := ⟨gb519, 3, none⟩) (Kd.R_far (p := ⟨gb519, 2, none⟩) (Kd.R_far (p := ⟨gb519, 1, none⟩) (Kd.R_far (p := ⟨gb519, 0, none⟩) (Kd.R_types HO509.out BK519.out (by decide)) (fun _ hk => hk.2) (.slice Ao56 t507.length co56)) (fun _ hk => hk.2) (.slice Ao60 t510.length co60)) (fun _ hk => hk.2) (.int .i64 t513)) (fun _ hk => hk.2) (.int .i64 t514)) (fun _ hk => hk.2) (.int .i64 t515)) (fun _ hk => hk.2) (.int .i64 t516)) (fun _ h_ => h_.1)))); (case side2 => exact (Kd.R_reads' HO509.out).2.1); (case side3 => exact Kd.C_below HR0_0.out (by repeat (first | (with_reducible first | exact HB.out | apply below_alloc | apply pw_below_drewN | apply below_drew1 | refine below_set ?_ GE493.out | refine below_set ?_ GE494.out | refine below_set ?_ GE519.out) | exact HB.out | exact Below.refl _ _))); (case side4 => exact HC0_0.out); rintro e w' ⟨rfl, ⟨nd, rfl⟩⟩; obtain ⟨Ao63, co63, eo63⟩ := Kd.R_slice HO501.out; subst eo63) | (go_at_call 15; (with_reducible refine (terrierref01_Same.calls _ _ t503 _ _ t499 false _ ?side1 ?side2 ?side3 ?side4 A40.out).mono ?_); (case side1 => refine (Kd.R_reads' (e := 5) (base := w.heap.size) (ok := fun k_ => (((True ∧ some k_ ≠ (.slice Ao63 t499.length co63 : Value).ownBlock) ∧ some k_ ≠ (.slice Ao56 t507.length co56 : Value).ownBlock) ∧ some k_ ≠ (.slice Ao60 t510.length co60 : Value).ownBlock)) (n := t503.length) (c := co53) ?_).2.2; exact (by (with_reducible repeat (first | apply Kd.R_alloc | apply Kd.R_drewN | apply Kd.R_drew)); exact (Kd.R_mono (Kd.R_far (p := ⟨gb519, 5, none⟩) (Kd.R_far (p := ⟨gb519, 4, none⟩) (Kd.R_far (p := ⟨gb519, 3, none⟩) (Kd.R_far (p := ⟨gb519, 2, none⟩) (Kd.R_far (p := ⟨gb519, 1, none⟩) (Kd.R_far (p := ⟨gb519, 0, none⟩) (Kd.R_types HO506.out BK519.out (by decide)) (fun _ hk => hk.2) (.slice Ao56 t507.length co56)) (fun _ hk => hk.2) (.slice Ao60 t510.length co60)) (fun _ hk => hk.2) (.int .i64 t513)) (fun _ hk => hk.2) (.int .i64 t514)) (fun _ hk => hk.2) (.int .i64 t515)) (fun _ hk => hk.2) (.int .i64 t516)) (fun _ h_ => h_.1)))); (case side2 => exact (Kd.R_reads' HO506.out).2.1); (case side3 => refine (Kd.R_reads' (e := 5) (base := w.heap.size) (ok := fun k_ => (((True ∧ some k_ ≠ (.slice Ao53 t503.length co53 : Value).ownBlock) ∧ some k_ ≠ (.slice Ao56 t507.length co56 : Value).ownBlock) ∧ some k_ ≠ (.slice Ao60 t510.length co60 : Value).ownBlock)) (n := t499.length) (c := co63) ?_).2.2; exact (by (with_reducible repeat (first | apply Kd.R_alloc | apply Kd.R_drewN | apply Kd.R_drew)); exact (Kd.R_mono (Kd.R_far (p := ⟨gb519, 5, none⟩) (Kd.R_far (p := ⟨gb519, 4, none⟩) (Kd.R_far (p := ⟨gb519, 3, none⟩) (Kd.R_far (p := ⟨gb519, 2, none⟩) (Kd.R_far (p := ⟨gb519, 1, none⟩) (Kd.R_far (p := ⟨gb519, 0, none⟩) (Kd.R_types HO501.out BK519.out (by decide)) (fun _ hk => hk.2) (.slice Ao56 t507.length co56)) (fun _ hk => hk.2) (.slice Ao60 t510.length co60)) (fun _ hk => hk.2) (.int .i64 t513)) (fun _ hk => hk.2) (.int .i64 t514)) (fun _ hk => hk.2) (.int .i64 t515)) (fun _ hk => hk.2) (.int .i64 t516)) (fun _ h_ => h_.1)))); (case side4 => exact (Kd.R_reads' HO501.out).2.1); rintro e w' ⟨rfl, ⟨nd, rfl⟩⟩))
           go_meet
           case rel => exact ⟨_, H', ⟨by have := HJ2.out; first | omega | exact Nat.le_refl _⟩, ⟨by (with_reducible repeat (first | apply Kd.R_alloc | apply Kd.R_drewN | apply Kd.R_drew)); exact Kd.R_mono (Kd.R_far (p := ⟨gb519, 5, none⟩) (Kd.R_far (p := ⟨gb519, 4, none⟩) (Kd.R_far (p := ⟨gb519, 3, none⟩) (Kd.R_far (p := ⟨gb519, 2, none⟩) (Kd.R_far (p := ⟨gb519, 1, none⟩) (Kd.R_far (p := ⟨gb519, 0, none⟩) (Kd.R_types HO501.out BK519.out (by decide)) (fun _ hk => hk.2) (.slice Ao56 t507.length co56)) (fun _ hk => hk.2) (.slice Ao60 t510.length co60)) (fun _ hk => hk.2) (.int .i64 t513)) (fun _ hk => hk.2) (.int .i64 t514)) (fun _ hk => hk.2) (.int .i64 t515)) (fun _ hk => hk.2) (.int .i64 t516)) (fun _ hk => trivial)⟩, ⟨by (with_reducible repeat (first | refine blk_drewN ?_ _ | refine blk_drew ?_ | refine blk_alloc ?_ _)); refine blk_far ?_ NB493_519.out _; (with_reducible repeat (first | refine blk_drewN ?_ _ | refine blk_drew ?_ | refine blk_alloc ?_ _)); refine blk_far ?_ NB493_519.out _; (with_reducible repeat (first | refine blk_drewN ?_ _ | refine blk_drew ?_ | refine blk_alloc ?_ _)); refine blk_far ?_ NB493_519.out _; (with_reducible repeat (first | refine blk_drewN ?_ _ | refine blk_drew ?_ | refine blk_alloc ?_ _)); refine blk_far ?_ NB493_519.out _; (with_reducible repeat (first | refine blk_drewN ?_ _ | refine blk_drew ?_ | refine blk_alloc ?_ _)); refine blk_far ?_ NB493_519.out _; (with_reducible repeat (first | refine blk_drewN ?_ _ | refine blk_drew ?_ | refine blk_alloc ?_ _)); refine blk_far ?_ NB493_519.out _; (with_reducible repeat (first | refine blk_drewN ?_ _ | refine blk_drew ?_ | refine blk_alloc ?_ _)); exact BK493.out⟩, ⟨by (with_reducible repeat (first | refine blk_drewN ?_ _ | refine blk_drew ?_ | refine blk_alloc ?_ _)); refine blk_far ?_ NB494_519.out _; (with_reducible repeat (first | refine blk_drewN ?_ _ | refine blk_drew ?_ | refine blk_alloc ?_ _)); refine blk_far ?_ NB494_519.out _; (with_reducible repeat (first | refine blk_drewN ?_ _ | refine blk_drew ?_ | refine blk_alloc ?_ _)); refine blk_far ?_ NB494_519.out _; (with_reducible repeat (first | refine blk_drewN ?_ _ | refine blk_drew ?_ | refine blk_alloc ?_ _)); refine blk_far ?_ NB494_519.out _; (with_reducible repeat (first | refine blk_drewN ?_ _ | refine blk_drew ?_ | refine blk_alloc ?_ _)); refine blk_far ?_ NB494_519.out _; (with_reducible repeat (first | refine blk_drewN ?_ _ | refine blk_drew ?_ | refine blk_alloc ?_ _)); refine blk_far ?_ NB494_519.out _; (with_reducible repeat (first | refine blk_drewN ?_ _ | refine blk_drew ?_ | refine blk_alloc ?_ _)); exact BK494.out⟩, ⟨by repeat (first | (with_reducible first | exact HB.out | apply below_alloc | apply pw_below_drewN | apply below_drew1 | refine below_set ?_ GE493.out | refine below_set ?_ GE494.out | refine below_set ?_ GE519.out) | exact HB.out | exact Below.refl _ _)⟩⟩
         ·
          rw [if_neg c39] at H
          have c39b0 : (t514 == 0) = false := beq_eq_false_iff_ne.mpr c39
          have c39b1 : (t514 != 0) = true := bne_iff_ne.mpr c39
          obtain rfl := Option.some.inj H
          obtain ⟨Ao64, co64, eo64⟩ := Kd.R_slice HO506.out
          subst eo64
          go_wp2_with (first | ((with_reducible refine gate_callee (f := 21) rfl ?_); refine goesL_ (some 45) rfl rfl Try.func21 (by kernel_rfl) rfl #[.slice Ao64 t503.length co64] rfl (by (try simp only [List.map_toArray, List.map_cons, List.map_nil]); first | done | rfl | (simp only [List.length_drop, List.length_take]; rfl)) ?_; (with_reducible refine (record_Decode.calls kj2 _ _ t503 t507 t510 t513 t514 t515 t516 true t518 _ ?side1 ?side2 A34.out).mono ?_); (case side1 => repeat (first | exact (Kd.R_reads' HO506.out).2.2 | (with_reducible refine Kd.C_alloc ?_ _) | (with_reducible refine Kd.C_drewN ?_ _) | (with_reducible refine Kd.C_drew ?_))); (case side2 => exact (Kd.R_reads' HO506.out).2.1); rintro e w65 ⟨v508, v511, rfl, ho0, ho1, hb⟩; refine ⟨_, rfl, ?_⟩; have n0_ := Aside0.mk (Kd.R_mono (Kd.R_told (Kd.R_told (Kd.R_old (by (with_reducible repeat (first | apply Kd.R_alloc | apply Kd.R_drewN | apply Kd.R_drew)); exact HO501.out) hb) (Kd.R_base ho0)) (Kd.R_base ho1)) (fun _ h_ => h_.1)); have n1_ := Aside0.mk (Kd.R_mono (Kd.R_told (Kd.R_told (Kd.R_old (by (with_reducible repeat (first | apply Kd.R_alloc | apply Kd.R_drewN | apply Kd.R_drew)); exact HO506.out) hb) (Kd.R_base ho0)) (Kd.R_base ho1)) (fun _ h_ => h_.1)); have n2_ := Aside0.mk (Kd.R_lower (Kd.R_new' (Kd.R_new' ho0 (Kd.R_lt (by (with_reducible repeat (first | apply Kd.R_alloc | apply Kd.R_drewN | apply Kd.R_drew)); exact HO501.out))) (Kd.R_lt (by (with_reducible repeat (first | apply Kd.R_alloc | apply Kd.R_drewN | apply Kd.R_drew)); exact HO506.out))) (below_size (by repeat (first | (with_reducible first | exact HB.out | apply below_alloc | apply pw_below_drewN | apply below_drew1 | refine below_set ?_ GE493.out | refine below_set ?_ GE494.out) | exact HB.out | exact Below.refl _ _)))); have n3_ := Aside0.mk (Kd.R_lower (Kd.R_new' (Kd.R_new' ho1 (Kd.R_lt (by (with_reducible repeat (first | apply Kd.R_alloc | apply Kd.R_drewN | apply Kd.R_drew)); exact HO501.out))) (Kd.R_lt (by (with_reducible repeat (first | apply Kd.R_alloc | apply Kd.R_drewN | apply Kd.R_drew)); exact HO506.out))) (below_size (by repeat (first | (with_reducible first | exact HB.out | apply below_alloc | apply pw_below_drewN | apply below_drew1 | refine below_set ?_ GE493.out | refine below_set ?_ GE494.out) | exact HB.out | exact Below.refl _ _)))); have n4_ := Aside0.mk (blk_below BK493.out hb); have n5_ := Aside0.mk (blk_below BK494.out hb); have n6_ := Aside0.mk (below_step (by repeat (first | (with_reducible first | exact HB.out | apply below_alloc | apply pw_below_drewN | apply below_drew1 | refine below_set ?_ GE493.out | refine below_set ?_ GE494.out) | exact HB.out | exact Below.refl _ _)) hb); clear HO501; clear HO506; clear BK493; clear BK494; clear HB; have HO501 := n0_; have HO506 := n1_; have HO509 := n2_; have HO512 := n3_; have BK493 := n4_; have BK494 := n5_; have HB := n6_; clear n0_ n1_ n2_ n3_ n4_ n5_ n6_; (try clear hb); (try clear hb2); (try clear hk); (try clear hi); (try clear ho0); (try clear ho1)) | ((with_reducible refine gate_dst (N := 9) rfl ?_); refine box_event ?hg (N := 9) ?hd (cs := #[.slice none 0 0, .slice none 0 0, .int .i64 0, .int .i64 0, .int .i64 0, .int .i64 0]) (t := 24) ?hr ?_; (case hd => rfl); (case hg => rfl); (case hr => first | (go_simp; done) | (go_simp; rfl)); intro gb519 hg w66 hbox hb; have n0_ := Aside0.mk (Kd.R_below (by (with_reducible repeat (first | apply Kd.R_alloc | apply Kd.R_drewN | apply Kd.R_drew)); exact HO501.out) hb); have n1_ := Aside0.mk (Kd.R_below (by (with_reducible repeat (first | apply Kd.R_alloc | apply Kd.R_drewN | apply Kd.R_drew)); exact HO506.out) hb); have n2_ := Aside0.mk (Kd.R_below (by (with_reducible repeat (first | apply Kd.R_alloc | apply Kd.R_drewN | apply Kd.R_drew)); exact HO509.out) hb); have n3_ := Aside0.mk (Kd.R_below (by (with_reducible repeat (first | apply Kd.R_alloc | apply Kd.R_drewN | apply Kd.R_drew)); exact HO512.out) hb); have n4_ := Aside0.mk (blk_below BK493.out hb); have n5_ := Aside0.mk (blk_below BK494.out hb); have n6_ := Aside0.mk (below_step (by repeat (first | (with_reducible first | exact HB.out | apply below_alloc | apply pw_below_drewN | apply below_drew1 | refine below_set ?_ GE493.out | refine below_set ?_ GE494.out) | exact HB.out | exact Below.refl _ _)) hb); have n7_ := Aside0.mk (hbox); have n8_ := Aside0.mk ((by rw [hg]; exact (below_size (by repeat (first | (with_reducible first | exact HB.out | apply below_alloc | apply pw_below_drewN | apply below_drew1 | refine below_set ?_ GE493.out | refine below_set ?_ GE494.out) | exact HB.out | exact Below.refl _ _))) : w.heap.size ≤ gb519)); have n9_ := Aside0.mk ((by rw [hg]; exact (below_size (by repeat (first | (with_reducible first | exact HB.out | apply below_alloc | apply pw_below_drewN | apply below_drew1 | refine below_set ?_ GE493.out | refine below_set ?_ GE494.out) | exact HB.out | exact Below.refl _ _))) : w.heap.size ≤ gb519)); have n10_ := Aside0.mk ((by rw [hg]; exact Nat.ne_of_lt (blk_lt BK493.out) : gb493 ≠ gb519)); have n11_ := Aside0.mk ((by rw [hg]; exact Nat.ne_of_gt (blk_lt BK493.out) : gb519 ≠ gb493)); have n12_ := Aside0.mk ((by rw [hg]; exact Nat.ne_of_lt (blk_lt BK494.out) : gb494 ≠ gb519)); have n13_ := Aside0.mk ((by rw [hg]; exact Nat.ne_of_gt (blk_lt BK494.out) : gb519 ≠ gb494)); clear HO501; clear HO506; clear HO509; clear HO512; clear BK493; clear BK494; clear HB; have HO501 := n0_; have HO506 := n1_; have HO509 := n2_; have HO512 := n3_; have BK493 := n4_; have BK494 := n5_; have HB := n6_; have BK519 := n7_; have GW519 := n8_; have GE519 := n9_; have NB493_519 := n10_; have NB519_493 := n11_; have NB494_519 := n12_; have NB519_494 := n13_; clear n0_ n1_ n2_ n3_ n4_ n5_ n6_ n7_ n8_ n9_ n10_ n11_ n12_ n13_; clear hb hbox hg; obtain ⟨Ao67, co67, eo67⟩ := Kd.R_slice HO509.out; subst eo67; have hnb68 := NB519_493.out; have hnc68 := NB493_519.out; have hnb69 := NB519_494.out; have hnc69 := NB494_519.out; have hcz70_0 : w66.cell? ⟨gb519, 0, none⟩ = some (.slice none 0 0) := (blk_cell BK519.out 0).trans rfl; have hcz70_1 : w66.cell? ⟨gb519, 1, none⟩ = some (.slice none 0 0) := (blk_cell BK519.out 1).trans rfl; have hcz70_2 : w66.cell? ⟨gb519, 2, none⟩ = some (.int .i64 0) := (blk_cell BK519.out 2).trans rfl; have hcz70_3 : w66.cell? ⟨gb519, 3, none⟩ = some (.int .i64 0) := (blk_cell BK519.out 3).trans rfl; have hcz70_4 : w66.cell? ⟨gb519, 4, none⟩ = some (.int .i64 0) := (blk_cell BK519.out 4).trans rfl; have hcz70_5 : w66.cell? ⟨gb519, 5, none⟩ = some (.int .i64 0) := (blk_cell BK519.out 5).trans rfl; have hfz70_0 := blk_frozen BK519.out 0; have hfz70_1 := blk_frozen BK519.out 1; have hfz70_2 := blk_frozen BK519.out 2; have hfz70_3 := blk_frozen BK519.out 3; have hfz70_4 := blk_frozen BK519.out 4; have hfz70_5 := blk_frozen BK519.out 5; obtain ⟨Ao71, co71, eo71⟩ := Kd.R_slice HO512.out; subst eo71; have hnb72 := NB493_494.out; have hnc72 := NB494_493.out; have hcz73_0 : w66.cell? ⟨gb493, 0, none⟩ = some (.slice A0_0 l0_0.length c0_0) := (blk_cell BK493.out 0).trans rfl; have hcz73_1 : w66.cell? ⟨gb493, 1, none⟩ = some (.slice A0_1 l0_1.length c0_1) := (blk_cell BK493.out 1).trans rfl; have hcz73_2 : w66.cell? ⟨gb493, 2, none⟩ = some (.int .i64 a0_2) := (blk_cell BK493.out 2).trans rfl; have hcz73_3 : w66.cell? ⟨gb493, 3, none⟩ = some (.int .i64 a0_3) := (blk_cell BK493.out 3).trans rfl; have hcz73_4 : w66.cell? ⟨gb493, 4, none⟩ = some (.int .i64 a0_4) := (blk_cell BK493.out 4).trans rfl; have hcz73_5 : w66.cell? ⟨gb493, 5, none⟩ = some (.int .i64 a0_5) := (blk_cell BK493.out 5).trans rfl; have hfz73_0 := blk_frozen BK493.out 0; have hfz73_1 := blk_frozen BK493.out 1; have hfz73_2 := blk_frozen BK493.out 2; have hfz73_3 := blk_frozen BK493.out 3; have hfz73_4 := blk_frozen BK493.out 4; have hfz73_5 := blk_frozen BK493.out 5) | (go_at_call 15; (with_reducible refine (terrierref01_Same.calls _ _ t507 _ _ l0_0 true _ ?side1 ?side2 ?side3 ?side4 A37.out).mono ?_); (case side1 => refine (Kd.R_reads' (e := 5) (base := w.heap.size) (ok := fun k_ => ((some k_ ≠ (.slice Ao71 t510.length co71 : Value).ownBlock ∧ some k_ ≠ (v500 : Value).ownBlock) ∧ some k_ ≠ (.slice Ao64 t503.length co64 : Value).ownBlock)) (n := t507.length) (c := co67) ?_).2.2; exact (by (with_reducible repeat (first | apply Kd.R_alloc | apply Kd.R_drewN | apply Kd.R_drew)); exact (Kd.R_mono (Kd.R_far (p := ⟨gb519, 5, none⟩) (Kd.R_far (p := ⟨gb519, 4, none⟩) (Kd.R_far (p := ⟨gb519, 3, none⟩) (Kd.R_far (p := ⟨gb519, 2, none⟩) (Kd.R_far (p := ⟨gb519, 1, none⟩) (Kd.R_far (p := ⟨gb519, 0, none⟩) (Kd.R_types HO509.out BK519.out (by decide)) (fun _ hk => hk.2) (.slice Ao67 t507.length co67)) (fun _ hk => hk.2) (.slice Ao71 t510.length co71)) (fun _ hk => hk.2) (.int .i64 t513)) (fun _ hk => hk.2) (.int .i64 t514)) (fun _ hk => hk.2) (.int .i64 t515)) (fun _ hk => hk.2) (.int .i64 t516)) (fun _ h_ => h_.1)))); (case side2 => exact (Kd.R_reads' HO509.out).2.1); (case side3 => exact Kd.C_below HR0_0.out (by repeat (first | (with_reducible first | exact HB.out | apply below_alloc | apply pw_below_drewN | apply below_drew1 | refine below_set ?_ GE493.out | refine below_set ?_ GE494.out | refine below_set ?_ GE519.out) | exact HB.out | exact Below.refl _ _))); (case side4 => exact HC0_0.out); rintro e w' ⟨rfl, ⟨nd, rfl⟩⟩))
          go_ret
          exact ⟨by first | rfl | (simp [errW_none, errW_some] <;> rfl) | (simp [*, errW_none, errW_some] <;> rfl), by repeat (first | (with_reducible first | exact HB.out | apply below_alloc | apply pw_below_drewN | apply below_drew1 | refine below_set ?_ GE493.out | refine below_set ?_ GE494.out | refine below_set ?_ GE519.out) | exact HB.out | exact Below.refl _ _)⟩
        ·
         replace c38 := Bool.eq_false_iff.mpr c38
         subst c38
         have H1 : (some false) = some r := by rw [if_neg (show ¬ (false = true) by decide)] at H; exact H
         clear H
         have H := H1
         clear H1
         obtain rfl := Option.some.inj H
         obtain ⟨Ao74, co74, eo74⟩ := Kd.R_slice HO506.out
         subst eo74
         go_wp2_with (first | ((with_reducible refine gate_callee (f := 21) rfl ?_); refine goesL_ (some 45) rfl rfl Try.func21 (by kernel_rfl) rfl #[.slice Ao74 t503.length co74] rfl (by (try simp only [List.map_toArray, List.map_cons, List.map_nil]); first | done | rfl | (simp only [List.length_drop, List.length_take]; rfl)) ?_; (with_reducible refine (record_Decode.calls kj2 _ _ t503 t507 t510 t513 t514 t515 t516 true t518 _ ?side1 ?side2 A34.out).mono ?_); (case side1 => repeat (first | exact (Kd.R_reads' HO506.out).2.2 | (with_reducible refine Kd.C_alloc ?_ _) | (with_reducible refine Kd.C_drewN ?_ _) | (with_reducible refine Kd.C_drew ?_))); (case side2 => exact (Kd.R_reads' HO506.out).2.1); rintro e w75 ⟨v508, v511, rfl, ho0, ho1, hb⟩; refine ⟨_, rfl, ?_⟩; have n0_ := Aside0.mk (Kd.R_mono (Kd.R_told (Kd.R_told (Kd.R_old (by (with_reducible repeat (first | apply Kd.R_alloc | apply Kd.R_drewN | apply Kd.R_drew)); exact HO501.out) hb) (Kd.R_base ho0)) (Kd.R_base ho1)) (fun _ h_ => h_.1)); have n1_ := Aside0.mk (Kd.R_mono (Kd.R_told (Kd.R_told (Kd.R_old (by (with_reducible repeat (first | apply Kd.R_alloc | apply Kd.R_drewN | apply Kd.R_drew)); exact HO506.out) hb) (Kd.R_base ho0)) (Kd.R_base ho1)) (fun _ h_ => h_.1)); have n2_ := Aside0.mk (Kd.R_lower (Kd.R_new' (Kd.R_new' ho0 (Kd.R_lt (by (with_reducible repeat (first | apply Kd.R_alloc | apply Kd.R_drewN | apply Kd.R_drew)); exact HO501.out))) (Kd.R_lt (by (with_reducible repeat (first | apply Kd.R_alloc | apply Kd.R_drewN | apply Kd.R_drew)); exact HO506.out))) (below_size (by repeat (first | (with_reducible first | exact HB.out | apply below_alloc | apply pw_below_drewN | apply below_drew1 | refine below_set ?_ GE493.out | refine below_set ?_ GE494.out) | exact HB.out | exact Below.refl _ _)))); have n3_ := Aside0.mk (Kd.R_lower (Kd.R_new' (Kd.R_new' ho1 (Kd.R_lt (by (with_reducible repeat (first | apply Kd.R_alloc | apply Kd.R_drewN | apply Kd.R_drew)); exact HO501.out))) (Kd.R_lt (by (with_reducible repeat (first | apply Kd.R_alloc | apply Kd.R_drewN | apply Kd.R_drew)); exact HO506.out))) (below_size (by repeat (first | (with_reducible first | exact HB.out | apply below_alloc | apply pw_below_drewN | apply below_drew1 | refine below_set ?_ GE493.out | refine below_set ?_ GE494.out) | exact HB.out | exact Below.refl _ _)))); have n4_ := Aside0.mk (blk_below BK493.out hb); have n5_ := Aside0.mk (blk_below BK494.out hb); have n6_ := Aside0.mk (below_step (by repeat (first | (with_reducible first | exact HB.out | apply below_alloc | apply pw_below_drewN | apply below_drew1 | refine below_set ?_ GE493.out | refine below_set ?_ GE494.out) | exact HB.out | exact Below.refl _ _)) hb); clear HO501; clear HO506; clear BK493; clear BK494; clear HB; have HO501 := n0_; have HO506 := n1_; have HO509 := n2_; have HO512 := n3_; have BK493 := n4_; have BK494 := n5_; have HB := n6_; clear n0_ n1_ n2_ n3_ n4_ n5_ n6_; (try clear hb); (try clear hb2); (try clear hk); (try clear hi); (try clear ho0); (try clear ho1)) | ((with_reducible refine gate_dst (N := 9) rfl ?_); refine box_event ?hg (N := 9) ?hd (cs := #[.slice none 0 0, .slice none 0 0, .int .i64 0, .int .i64 0, .int .i64 0, .int .i64 0]) (t := 24) ?hr ?_; (case hd => rfl); (case hg => rfl); (case hr => first | (go_simp; done) | (go_simp; rfl)); intro gb519 hg w76 hbox hb; have n0_ := Aside0.mk (Kd.R_below (by (with_reducible repeat (first | apply Kd.R_alloc | apply Kd.R_drewN | apply Kd.R_drew)); exact HO501.out) hb); have n1_ := Aside0.mk (Kd.R_below (by (with_reducible repeat (first | apply Kd.R_alloc | apply Kd.R_drewN | apply Kd.R_drew)); exact HO506.out) hb); have n2_ := Aside0.mk (Kd.R_below (by (with_reducible repeat (first | apply Kd.R_alloc | apply Kd.R_drewN | apply Kd.R_drew)); exact HO509.out) hb); have n3_ := Aside0.mk (Kd.R_below (by (with_reducible repeat (first | apply Kd.R_alloc | apply Kd.R_drewN | apply Kd.R_drew)); exact HO512.out) hb); have n4_ := Aside0.mk (blk_below BK493.out hb); have n5_ := Aside0.mk (blk_below BK494.out hb); have n6_ := Aside0.mk (below_step (by repeat (first | (with_reducible first | exact HB.out | apply below_alloc | apply pw_below_drewN | apply below_drew1 | refine below_set ?_ GE493.out | refine below_set ?_ GE494.out) | exact HB.out | exact Below.refl _ _)) hb); have n7_ := Aside0.mk (hbox); have n8_ := Aside0.mk ((by rw [hg]; exact (below_size (by repeat (first | (with_reducible first | exact HB.out | apply below_alloc | apply pw_below_drewN | apply below_drew1 | refine below_set ?_ GE493.out | refine below_set ?_ GE494.out) | exact HB.out | exact Below.refl _ _))) : w.heap.size ≤ gb519)); have n9_ := Aside0.mk ((by rw [hg]; exact (below_size (by repeat (first | (with_reducible first | exact HB.out | apply below_alloc | apply pw_below_drewN | apply below_drew1 | refine below_set ?_ GE493.out | refine below_set ?_ GE494.out) | exact HB.out | exact Below.refl _ _))) : w.heap.size ≤ gb519)); have n10_ := Aside0.mk ((by rw [hg]; exact Nat.ne_of_lt (blk_lt BK493.out) : gb493 ≠ gb519)); have n11_ := Aside0.mk ((by rw [hg]; exact Nat.ne_of_gt (blk_lt BK493.out) : gb519 ≠ gb493)); have n12_ := Aside0.mk ((by rw [hg]; exact Nat.ne_of_lt (blk_lt BK494.out) : gb494 ≠ gb519)); have n13_ := Aside0.mk ((by rw [hg]; exact Nat.ne_of_gt (blk_lt BK494.out) : gb519 ≠ gb494)); clear HO501; clear HO506; clear HO509; clear HO512; clear BK493; clear BK494; clear HB; have HO501 := n0_; have HO506 := n1_; have HO509 := n2_; have HO512 := n3_; have BK493 := n4_; have BK494 := n5_; have HB := n6_; have BK519 := n7_; have GW519 := n8_; have GE519 := n9_; have NB493_519 := n10_; have NB519_493 := n11_; have NB494_519 := n12_; have NB519_494 := n13_; clear n0_ n1_ n2_ n3_ n4_ n5_ n6_ n7_ n8_ n9_ n10_ n11_ n12_ n13_; clear hb hbox hg; obtain ⟨Ao77, co77, eo77⟩ := Kd.R_slice HO509.out; subst eo77; have hnb78 := NB519_493.out; have hnc78 := NB493_519.out; have hnb79 := NB519_494.out; have hnc79 := NB494_519.out; have hcz80_0 : w76.cell? ⟨gb519, 0, none⟩ = some (.slice none 0 0) := (blk_cell BK519.out 0).trans rfl; have hcz80_1 : w76.cell? ⟨gb519, 1, none⟩ = some (.slice none 0 0) := (blk_cell BK519.out 1).trans rfl; have hcz80_2 : w76.cell? ⟨gb519, 2, none⟩ = some (.int .i64 0) := (blk_cell BK519.out 2).trans rfl; have hcz80_3 : w76.cell? ⟨gb519, 3, none⟩ = some (.int .i64 0) := (blk_cell BK519.out 3).trans rfl; have hcz80_4 : w76.cell? ⟨gb519, 4, none⟩ = some (.int .i64 0) := (blk_cell BK519.out 4).trans rfl; have hcz80_5 : w76.cell? ⟨gb519, 5, none⟩ = some (.int .i64 0) := (blk_cell BK519.out 5).trans rfl; have hfz80_0 := blk_frozen BK519.out 0; have hfz80_1 := blk_frozen BK519.out 1; have hfz80_2 := blk_frozen BK519.out 2; have hfz80_3 := blk_frozen BK519.out 3; have hfz80_4 := blk_frozen BK519.out 4; have hfz80_5 := blk_frozen BK519.out 5; obtain ⟨Ao81, co81, eo81⟩ := Kd.R_slice HO512.out; subst eo81; have hnb82 := NB493_494.out; have hnc82 := NB494_493.out; have hcz83_0 : w76.cell? ⟨gb493, 0, none⟩ = some (.slice A0_0 l0_0.length c0_0) := (blk_cell BK493.out 0).trans rfl; have hcz83_1 : w76.cell? ⟨gb493, 1, none⟩ = some (.slice A0_1 l0_1.length c0_1) := (blk_cell BK493.out 1).trans rfl; have hcz83_2 : w76.cell? ⟨gb493, 2, none⟩ = some (.int .i64 a0_2) := (blk_cell BK493.out 2).trans rfl; have hcz83_3 : w76.cell? ⟨gb493, 3, none⟩ = some (.int .i64 a0_3) := (blk_cell BK493.out 3).trans rfl; have hcz83_4 : w76.cell? ⟨gb493, 4, none⟩ = some (.int .i64 a0_4) := (blk_cell BK493.out 4).trans rfl; have hcz83_5 : w76.cell? ⟨gb493, 5, none⟩ = some (.int .i64 a0_5) := (blk_cell BK493.out 5).trans rfl; have hfz83_0 := blk_frozen BK493.out 0; have hfz83_1 := blk_frozen BK493.out 1; have hfz83_2 := blk_frozen BK493.out 2; have hfz83_3 := blk_frozen BK493.out 3; have hfz83_4 := blk_frozen BK493.out 4; have hfz83_5 := blk_frozen BK493.out 5) | (go_at_call 15; (with_reducible refine (terrierref01_Same.calls _ _ t507 _ _ l0_0 false _ ?side1 ?side2 ?side3 ?side4 A37.out).mono ?_); (case side1 => refine (Kd.R_reads' (e := 5) (base := w.heap.size) (ok := fun k_ => ((some k_ ≠ (.slice Ao81 t510.length co81 : Value).ownBlock ∧ some k_ ≠ (v500 : Value).ownBlock) ∧ some k_ ≠ (.slice Ao74 t503.length co74 : Value).ownBlock)) (n := t507.length) (c := co77) ?_).2.2; exact (by (with_reducible repeat (first | apply Kd.R_alloc | apply Kd.R_drewN | apply Kd.R_drew)); exact (Kd.R_mono (Kd.R_far (p := ⟨gb519, 5, none⟩) (Kd.R_far (p := ⟨gb519, 4, none⟩) (Kd.R_far (p := ⟨gb519, 3, none⟩) (Kd.R_far (p := ⟨gb519, 2, none⟩) (Kd.R_far (p := ⟨gb519, 1, none⟩) (Kd.R_far (p := ⟨gb519, 0, none⟩) (Kd.R_types HO509.out BK519.out (by decide)) (fun _ hk => hk.2) (.slice Ao77 t507.length co77)) (fun _ hk => hk.2) (.slice Ao81 t510.length co81)) (fun _ hk => hk.2) (.int .i64 t513)) (fun _ hk => hk.2) (.int .i64 t514)) (fun _ hk => hk.2) (.int .i64 t515)) (fun _ hk => hk.2) (.int .i64 t516)) (fun _ h_ => h_.1)))); (case side2 => exact (Kd.R_reads' HO509.out).2.1); (case side3 => exact Kd.C_below HR0_0.out (by repeat (first | (with_reducible first | exact HB.out | apply below_alloc | apply pw_below_drewN | apply below_drew1 | refine below_set ?_ GE493.out | refine below_set ?_ GE494.out | refine below_set ?_ GE519.out) | exact HB.out | exact Below.refl _ _))); (case side4 => exact HC0_0.out); rintro e w' ⟨rfl, ⟨nd, rfl⟩⟩))
         go_ret
         exact ⟨by first | rfl | (simp [errW_none, errW_some] <;> rfl) | (simp [*, errW_none, errW_some] <;> rfl), by repeat (first | (with_reducible first | exact HB.out | apply below_alloc | apply pw_below_drewN | apply below_drew1 | refine below_set ?_ GE493.out | refine below_set ?_ GE494.out | refine below_set ?_ GE519.out) | exact HB.out | exact Below.refl _ _)⟩
       ·
        replace c36 := Bool.eq_false_iff.mpr c36
        subst c36
        have H1 : (some false) = some r := by rw [if_neg (show ¬ (false = true) by decide)] at H; exact H
        clear H
        have H := H1
        clear H1
        obtain rfl := Option.some.inj H
        obtain ⟨Ao84, co84, eo84⟩ := Kd.R_slice HO506.out
        subst eo84
        go_wp2_with (first | ((with_reducible refine gate_callee (f := 21) rfl ?_); refine goesL_ (some 45) rfl rfl Try.func21 (by kernel_rfl) rfl #[.slice Ao84 t503.length co84] rfl (by (try simp only [List.map_toArray, List.map_cons, List.map_nil]); first | done | rfl | (simp only [List.length_drop, List.length_take]; rfl)) ?_; (with_reducible refine (record_Decode.calls kj2 _ _ t503 t507 t510 t513 t514 t515 t516 false t518 _ ?side1 ?side2 A34.out).mono ?_); (case side1 => repeat (first | exact (Kd.R_reads' HO506.out).2.2 | (with_reducible refine Kd.C_alloc ?_ _) | (with_reducible refine Kd.C_drewN ?_ _) | (with_reducible refine Kd.C_drew ?_))); (case side2 => exact (Kd.R_reads' HO506.out).2.1); rintro e w85 ⟨v508, v511, rfl, ho0, ho1, hb⟩; refine ⟨_, rfl, ?_⟩; have n0_ := Aside0.mk (Kd.R_mono (Kd.R_told (Kd.R_told (Kd.R_old (by (with_reducible repeat (first | apply Kd.R_alloc | apply Kd.R_drewN | apply Kd.R_drew)); exact HO501.out) hb) (Kd.R_base ho0)) (Kd.R_base ho1)) (fun _ h_ => h_.1)); have n1_ := Aside0.mk (Kd.R_mono (Kd.R_told (Kd.R_told (Kd.R_old (by (with_reducible repeat (first | apply Kd.R_alloc | apply Kd.R_drewN | apply Kd.R_drew)); exact HO506.out) hb) (Kd.R_base ho0)) (Kd.R_base ho1)) (fun _ h_ => h_.1)); have n2_ := Aside0.mk (Kd.R_lower (Kd.R_new' (Kd.R_new' ho0 (Kd.R_lt (by (with_reducible repeat (first | apply Kd.R_alloc | apply Kd.R_drewN | apply Kd.R_drew)); exact HO501.out))) (Kd.R_lt (by (with_reducible repeat (first | apply Kd.R_alloc | apply Kd.R_drewN | apply Kd.R_drew)); exact HO506.out))) (below_size (by repeat (first | (with_reducible first | exact HB.out | apply below_alloc | apply pw_below_drewN | apply below_drew1 | refine below_set ?_ GE493.out | refine below_set ?_ GE494.out) | exact HB.out | exact Below.refl _ _)))); have n3_ := Aside0.mk (Kd.R_lower (Kd.R_new' (Kd.R_new' ho1 (Kd.R_lt (by (with_reducible repeat (first | apply Kd.R_alloc | apply Kd.R_drewN | apply Kd.R_drew)); exact HO501.out))) (Kd.R_lt (by (with_reducible repeat (first | apply Kd.R_alloc | apply Kd.R_drewN | apply Kd.R_drew)); exact HO506.out))) (below_size (by repeat (first | (with_reducible first | exact HB.out | apply below_alloc | apply pw_below_drewN | apply below_drew1 | refine below_set ?_ GE493.out | refine below_set ?_ GE494.out) | exact HB.out | exact Below.refl _ _)))); have n4_ := Aside0.mk (blk_below BK493.out hb); have n5_ := Aside0.mk (blk_below BK494.out hb); have n6_ := Aside0.mk (below_step (by repeat (first | (with_reducible first | exact HB.out | apply below_alloc | apply pw_below_drewN | apply below_drew1 | refine below_set ?_ GE493.out | refine below_set ?_ GE494.out) | exact HB.out | exact Below.refl _ _)) hb); clear HO501; clear HO506; clear BK493; clear BK494; clear HB; have HO501 := n0_; have HO506 := n1_; have HO509 := n2_; have HO512 := n3_; have BK493 := n4_; have BK494 := n5_; have HB := n6_; clear n0_ n1_ n2_ n3_ n4_ n5_ n6_; (try clear hb); (try clear hb2); (try clear hk); (try clear hi); (try clear ho0); (try clear ho1)) | ((with_reducible refine gate_dst (N := 9) rfl ?_); refine box_event ?hg (N := 9) ?hd (cs := #[.slice none 0 0, .slice none 0 0, .int .i64 0, .int .i64 0, .int .i64 0, .int .i64 0]) (t := 24) ?hr ?_; (case hd => rfl); (case hg => rfl); (case hr => first | (go_simp; done) | (go_simp; rfl)); intro gb519 hg w86 hbox hb; have n0_ := Aside0.mk (Kd.R_below (by (with_reducible repeat (first | apply Kd.R_alloc | apply Kd.R_drewN | apply Kd.R_drew)); exact HO501.out) hb); have n1_ := Aside0.mk (Kd.R_below (by (with_reducible repeat (first | apply Kd.R_alloc | apply Kd.R_drewN | apply Kd.R_drew)); exact HO506.out) hb); have n2_ := Aside0.mk (Kd.R_below (by (with_reducible repeat (first | apply Kd.R_alloc | apply Kd.R_drewN | apply Kd.R_drew)); exact HO509.out) hb); have n3_ := Aside0.mk (Kd.R_below (by (with_reducible repeat (first | apply Kd.R_alloc | apply Kd.R_drewN | apply Kd.R_drew)); exact HO512.out) hb); have n4_ := Aside0.mk (blk_below BK493.out hb); have n5_ := Aside0.mk (blk_below BK494.out hb); have n6_ := Aside0.mk (below_step (by repeat (first | (with_reducible first | exact HB.out | apply below_alloc | apply pw_below_drewN | apply below_drew1 | refine below_set ?_ GE493.out | refine below_set ?_ GE494.out) | exact HB.out | exact Below.refl _ _)) hb); have n7_ := Aside0.mk (hbox); have n8_ := Aside0.mk ((by rw [hg]; exact (below_size (by repeat (first | (with_reducible first | exact HB.out | apply below_alloc | apply pw_below_drewN | apply below_drew1 | refine below_set ?_ GE493.out | refine below_set ?_ GE494.out) | exact HB.out | exact Below.refl _ _))) : w.heap.size ≤ gb519)); have n9_ := Aside0.mk ((by rw [hg]; exact (below_size (by repeat (first | (with_reducible first | exact HB.out | apply below_alloc | apply pw_below_drewN | apply below_drew1 | refine below_set ?_ GE493.out | refine below_set ?_ GE494.out) | exact HB.out | exact Below.refl _ _))) : w.heap.size ≤ gb519)); have n10_ := Aside0.mk ((by rw [hg]; exact Nat.ne_of_lt (blk_lt BK493.out) : gb493 ≠ gb519)); have n11_ := Aside0.mk ((by rw [hg]; exact Nat.ne_of_gt (blk_lt BK493.out) : gb519 ≠ gb493)); have n12_ := Aside0.mk ((by rw [hg]; exact Nat.ne_of_lt (blk_lt BK494.out) : gb494 ≠ gb519)); have n13_ := Aside0.mk ((by rw [hg]; exact Nat.ne_of_gt (blk_lt BK494.out) : gb519 ≠ gb494)); clear HO501; clear HO506; clear HO509; clear HO512; clear BK493; clear BK494; clear HB; have HO501 := n0_; have HO506 := n1_; have HO509 := n2_; have HO512 := n3_; have BK493 := n4_; have BK494 := n5_; have HB := n6_; have BK519 := n7_; have GW519 := n8_; have GE519 := n9_; have NB493_519 := n10_; have NB519_493 := n11_; have NB494_519 := n12_; have NB519_494 := n13_; clear n0_ n1_ n2_ n3_ n4_ n5_ n6_ n7_ n8_ n9_ n10_ n11_ n12_ n13_; clear hb hbox hg; obtain ⟨Ao87, co87, eo87⟩ := Kd.R_slice HO509.out; subst eo87; have hnb88 := NB519_493.out; have hnc88 := NB493_519.out; have hnb89 := NB519_494.out; have hnc89 := NB494_519.out; have hcz90_0 : w86.cell? ⟨gb519, 0, none⟩ = some (.slice none 0 0) := (blk_cell BK519.out 0).trans rfl; have hcz90_1 : w86.cell? ⟨gb519, 1, none⟩ = some (.slice none 0 0) := (blk_cell BK519.out 1).trans rfl; have hcz90_2 : w86.cell? ⟨gb519, 2, none⟩ = some (.int .i64 0) := (blk_cell BK519.out 2).trans rfl; have hcz90_3 : w86.cell? ⟨gb519, 3, none⟩ = some (.int .i64 0) := (blk_cell BK519.out 3).trans rfl; have hcz90_4 : w86.cell? ⟨gb519, 4, none⟩ = some (.int .i64 0) := (blk_cell BK519.out 4).trans rfl; have hcz90_5 : w86.cell? ⟨gb519, 5, none⟩ = some (.int .i64 0) := (blk_cell BK519.out 5).trans rfl; have hfz90_0 := blk_frozen BK519.out 0; have hfz90_1 := blk_frozen BK519.out 1; have hfz90_2 := blk_frozen BK519.out 2; have hfz90_3 := blk_frozen BK519.out 3; have hfz90_4 := blk_frozen BK519.out 4; have hfz90_5 := blk_frozen BK519.out 5; obtain ⟨Ao91, co91, eo91⟩ := Kd.R_slice HO512.out; subst eo91))
        go_ret
        exact ⟨by first | rfl | (simp [errW_none, errW_some] <;> rfl) | (simp [*, errW_none, errW_some] <;> rfl), by repeat (first | (with_reducible first | exact HB.out | apply below_alloc | apply pw_below_drewN | apply below_drew1 | refine below_set ?_ GE493.out | refine below_set ?_ GE494.out | refine below_set ?_ GE519.out) | exact HB.out | exact Below.refl _ _)⟩
      ·
       rw [if_neg c35] at H
       have c35b0 : (t518 == 0) = false := beq_eq_false_iff_ne.mpr c35
       have c35b1 : (t518 != 0) = true := bne_iff_ne.mpr c35
       obtain rfl := Option.some.inj H
       obtain ⟨Ao92, co92, eo92⟩ := Kd.R_slice HO506.out
       subst eo92
       go_wp2_with (first | ((with_reducible refine gate_callee (f := 21) rfl ?_); refine goesL_ (some 45) rfl rfl Try.func21 (by kernel_rfl) rfl #[.slice Ao92 t503.length co92] rfl (by (try simp only [List.map_toArray, List.map_cons, List.map_nil]); first | done | rfl | (simp only [List.length_drop, List.length_take]; rfl)) ?_; (with_reducible refine (record_Decode.calls kj2 _ _ t503 t507 t510 t513 t514 t515 t516 t517 t518 _ ?side1 ?side2 A34.out).mono ?_); (case side1 => repeat (first | exact (Kd.R_reads' HO506.out).2.2 | (with_reducible refine Kd.C_alloc ?_ _) | (with_reducible refine Kd.C_drewN ?_ _) | (with_reducible refine Kd.C_drew ?_))); (case side2 => exact (Kd.R_reads' HO506.out).2.1); rintro e w93 ⟨v508, v511, rfl, ho0, ho1, hb⟩; refine ⟨_, rfl, ?_⟩; have n0_ := Aside0.mk (Kd.R_mono (Kd.R_told (Kd.R_told (Kd.R_old (by (with_reducible repeat (first | apply Kd.R_alloc | apply Kd.R_drewN | apply Kd.R_drew)); exact HO501.out) hb) (Kd.R_base ho0)) (Kd.R_base ho1)) (fun _ h_ => h_.1)); have n1_ := Aside0.mk (Kd.R_mono (Kd.R_told (Kd.R_told (Kd.R_old (by (with_reducible repeat (first | apply Kd.R_alloc | apply Kd.R_drewN | apply Kd.R_drew)); exact HO506.out) hb) (Kd.R_base ho0)) (Kd.R_base ho1)) (fun _ h_ => h_.1)); have n2_ := Aside0.mk (Kd.R_lower (Kd.R_new' (Kd.R_new' ho0 (Kd.R_lt (by (with_reducible repeat (first | apply Kd.R_alloc | apply Kd.R_drewN | apply Kd.R_drew)); exact HO501.out))) (Kd.R_lt (by (with_reducible repeat (first | apply Kd.R_alloc | apply Kd.R_drewN | apply Kd.R_drew)); exact HO506.out))) (below_size (by repeat (first | (with_reducible first | exact HB.out | apply below_alloc | apply pw_below_drewN | apply below_drew1 | refine below_set ?_ GE493.out | refine below_set ?_ GE494.out) | exact HB.out | exact Below.refl _ _)))); have n3_ := Aside0.mk (Kd.R_lower (Kd.R_new' (Kd.R_new' ho1 (Kd.R_lt (by (with_reducible repeat (first | apply Kd.R_alloc | apply Kd.R_drewN | apply Kd.R_drew)); exact HO501.out))) (Kd.R_lt (by (with_reducible repeat (first | apply Kd.R_alloc | apply Kd.R_drewN | apply Kd.R_drew)); exact HO506.out))) (below_size (by repeat (first | (with_reducible first | exact HB.out | apply below_alloc | apply pw_below_drewN | apply below_drew1 | refine below_set ?_ GE493.out | refine below_set ?_ GE494.out) | exact HB.out | exact Below.refl _ _)))); have n4_ := Aside0.mk (blk_below BK493.out hb); have n5_ := Aside0.mk (blk_below BK494.out hb); have n6_ := Aside0.mk (below_step (by repeat (first | (with_reducible first | exact HB.out | apply below_alloc | apply pw_below_drewN | apply below_drew1 | refine below_set ?_ GE493.out | refine below_set ?_ GE494.out) | exact HB.out | exact Below.refl _ _)) hb); clear HO501; clear HO506; clear BK493; clear BK494; clear HB; have HO501 := n0_; have HO506 := n1_; have HO509 := n2_; have HO512 := n3_; have BK493 := n4_; have BK494 := n5_; have HB := n6_; clear n0_ n1_ n2_ n3_ n4_ n5_ n6_; (try clear hb); (try clear hb2); (try clear hk); (try clear hi); (try clear ho0); (try clear ho1)) | ((with_reducible refine gate_dst (N := 9) rfl ?_); refine box_event ?hg (N := 9) ?hd (cs := #[.slice none 0 0, .slice none 0 0, .int .i64 0, .int .i64 0, .int .i64 0, .int .i64 0]) (t := 24) ?hr ?_; (case hd => rfl); (case hg => rfl); (case hr => first | (go_simp; done) | (go_simp; rfl)); intro gb519 hg w94 hbox hb; have n0_ := Aside0.mk (Kd.R_below (by (with_reducible repeat (first | apply Kd.R_alloc | apply Kd.R_drewN | apply Kd.R_drew)); exact HO501.out) hb); have n1_ := Aside0.mk (Kd.R_below (by (with_reducible repeat (first | apply Kd.R_alloc | apply Kd.R_drewN | apply Kd.R_drew)); exact HO506.out) hb); have n2_ := Aside0.mk (Kd.R_below (by (with_reducible repeat (first | apply Kd.R_alloc | apply Kd.R_drewN | apply Kd.R_drew)); exact HO509.out) hb); have n3_ := Aside0.mk (Kd.R_below (by (with_reducible repeat (first | apply Kd.R_alloc | apply Kd.R_drewN | apply Kd.R_drew)); exact HO512.out) hb); have n4_ := Aside0.mk (blk_below BK493.out hb); have n5_ := Aside0.mk (blk_below BK494.out hb); have n6_ := Aside0.mk (below_step (by repeat (first | (with_reducible first | exact HB.out | apply below_alloc | apply pw_below_drewN | apply below_drew1 | refine below_set ?_ GE493.out | refine below_set ?_ GE494.out) | exact HB.out | exact Below.refl _ _)) hb); have n7_ := Aside0.mk (hbox); have n8_ := Aside0.mk ((by rw [hg]; exact (below_size (by repeat (first | (with_reducible first | exact HB.out | apply below_alloc | apply pw_below_drewN | apply below_drew1 | refine below_set ?_ GE493.out | refine below_set ?_ GE494.out) | exact HB.out | exact Below.refl _ _))) : w.heap.size ≤ gb519)); have n9_ := Aside0.mk ((by rw [hg]; exact (below_size (by repeat (first | (with_reducible first | exact HB.out | apply below_alloc | apply pw_below_drewN | apply below_drew1 | refine below_set ?_ GE493.out | refine below_set ?_ GE494.out) | exact HB.out | exact Below.refl _ _))) : w.heap.size ≤ gb519)); have n10_ := Aside0.mk ((by rw [hg]; exact Nat.ne_of_lt (blk_lt BK493.out) : gb493 ≠ gb519)); have n11_ := Aside0.mk ((by rw [hg]; exact Nat.ne_of_gt (blk_lt BK493.out) : gb519 ≠ gb493)); have n12_ := Aside0.mk ((by rw [hg]; exact Nat.ne_of_lt (blk_lt BK494.out) : gb494 ≠ gb519)); have n13_ := Aside0.mk ((by rw [hg]; exact Nat.ne_of_gt (blk_lt BK494.out) : gb519 ≠ gb494)); clear HO501; clear HO506; clear HO509; clear HO512; clear BK493; clear BK494; clear HB; have HO501 := n0_; have HO506 := n1_; have HO509 := n2_; have HO512 := n3_; have BK493 := n4_; have BK494 := n5_; have HB := n6_; have BK519 := n7_; have GW519 := n8_; have GE519 := n9_; have NB493_519 := n10_; have NB519_493 := n11_; have NB494_519 := n12_; have NB519_494 := n13_; clear n0_ n1_ n2_ n3_ n4_ n5_ n6_ n7_ n8_ n9_ n10_ n11_ n12_ n13_; clear hb hbox hg; obtain ⟨Ao95, co95, eo95⟩ := Kd.R_slice HO509.out; subst eo95; have hnb96 := NB519_493.out; have hnc96 := NB493_519.out; have hnb97 := NB519_494.out; have hnc97 := NB494_519.out; have hcz98_0 : w94.cell? ⟨gb519, 0, none⟩ = some (.slice none 0 0) := (blk_cell BK519.out 0).trans rfl; have hcz98_1 : w94.cell? ⟨gb519, 1, none⟩ = some (.slice none 0 0) := (blk_cell BK519.out 1).trans rfl; have hcz98_2 : w94.cell? ⟨gb519, 2, none⟩ = some (.int .i64 0) := (blk_cell BK519.out 2).trans rfl; have hcz98_3 : w94.cell? ⟨gb519, 3, none⟩ = some (.int .i64 0) := (blk_cell BK519.out 3).trans rfl; have hcz98_4 : w94.cell? ⟨gb519, 4, none⟩ = some (.int .i64 0) := (blk_cell BK519.out 4).trans rfl; have hcz98_5 : w94.cell? ⟨gb519, 5, none⟩ = some (.int .i64 0) := (blk_cell BK519.out 5).trans rfl; have hfz98_0 := blk_frozen BK519.out 0; have hfz98_1 := blk_frozen BK519.out 1; have hfz98_2 := blk_frozen BK519.out 2; have hfz98_3 := blk_frozen BK519.out 3; have hfz98_4 := blk_frozen BK519.out 4; have hfz98_5 := blk_frozen BK519.out 5; obtain ⟨Ao99, co99, eo99⟩ := Kd.R_slice HO512.out; subst eo99))
       go_ret
       exact ⟨by first | rfl | (simp [errW_none, errW_some] <;> rfl) | (simp [*, errW_none, errW_some] <;> rfl), by repeat (first | (with_reducible first | exact HB.out | apply below_alloc | apply pw_below_drewN | apply below_drew1 | refine below_set ?_ GE493.out | refine below_set ?_ GE494.out | refine below_set ?_ GE519.out) | exact HB.out | exact Below.refl _ _)⟩
     ·
      rw [if_neg c33] at H
      have c33b0 : (t504 == 0) = false := beq_eq_false_iff_ne.mpr c33
      have c33b1 : (t504 != 0) = true := bne_iff_ne.mpr c33
      (first | rw [c33b0] | (simp only [i64_w, i32_w]; rw [c33b0]) | skip)
      have H' := Aside0.mk H
      clear H
      go_wp2
      go_meet
      case rel => exact ⟨_, H', ⟨by have := HJ2.out; first | omega | exact Nat.le_refl _⟩, ⟨by (with_reducible repeat (first | apply Kd.R_alloc | apply Kd.R_drewN | apply Kd.R_drew)); exact Kd.R_mono HO501.out (fun _ hk => trivial)⟩, ⟨by exact BK493.out⟩, ⟨by exact BK494.out⟩, ⟨by repeat (first | (with_reducible first | exact HB.out | apply below_alloc | apply pw_below_drewN | apply below_drew1 | refine below_set ?_ GE493.out | refine below_set ?_ GE494.out) | exact HB.out | exact Below.refl _ _)⟩⟩
    case rest =>
     clear HC27
     try clear c1
     try clear c2
     try clear p2
     try clear c3
     try clear c4
     try clear c5
     try clear c6
     try clear c7
     try clear c8
     try clear c9
     try clear c10
     try clear c11
     try clear c12
     try clear c18
     try clear c21
     try clear c22
     try clear c28
     try clear c33
     try clear c33b0
     try clear c33b1
     try clear c35
     try clear c35b0
     try clear c35b1
     try clear c36
     try clear c38
     try clear c39
     try clear c39b0
     try clear c39b1
     try clear c41
     try clear c46
     try clear c47
     try clear c50
     try clear c57
     try clear c58
     try clear c61
     try clear c68
     try clear c69
     try clear c72
     try clear c78
     try clear c79
     try clear c82
     try clear c88
     try clear c89
     try clear c96
     try clear c97
     try clear hcz13_0
     try clear hcz13_1
     try clear hcz13_2
     try clear hcz13_3
     try clear hcz13_4
     try clear hcz13_5
     try clear hcz15_0
     try clear hcz15_1
     try clear hcz15_2
     try clear hcz15_3
     try clear hcz15_4
     try clear hcz15_5
     try clear hcz19_0
     try clear hcz19_1
     try clear hcz19_2
     try clear hcz19_3
     try clear hcz19_4
     try clear hcz19_5
     try clear hcz29_0
     try clear hcz29_1
     try clear hcz29_2
     try clear hcz29_3
     try clear hcz29_4
     try clear hcz29_5
     try clear hcz31_0
     try clear hcz31_1
     try clear hcz31_2
     try clear hcz31_3
     try clear hcz31_4
     try clear hcz31_5
     try clear hcz48_0
     try clear hcz48_1
     try clear hcz48_2
     try clear hcz48_3
     try clear hcz48_4
     try clear hcz48_5
     try clear hcz51_0
     try clear hcz51_1
     try clear hcz51_2
     try clear hcz51_3
     try clear hcz51_4
     try clear hcz51_5
     try clear hcz59_0
     try clear hcz59_1
     try clear hcz59_2
     try clear hcz59_3
     try clear hcz59_4
     try clear hcz59_5
     try clear hcz62_0
     try clear hcz62_1
     try clear hcz62_2
     try clear hcz62_3
     try clear hcz62_4
     try clear hcz62_5
     try clear hcz70_0
     try clear hcz70_1
     try clear hcz70_2
     try clear hcz70_3
     try clear hcz70_4
     try clear hcz70_5
     try clear hcz73_0
     try clear hcz73_1
     try clear hcz73_2
     try clear hcz73_3
     try clear hcz73_4
     try clear hcz73_5
     try clear hcz80_0
     try clear hcz80_1
     try clear hcz80_2
     try clear hcz80_3
     try clear hcz80_4
     try clear hcz80_5
     try clear hcz83_0
     try clear hcz83_1
     try clear hcz83_2
     try clear hcz83_3
     try clear hcz83_4
     try clear hcz83_5
     try clear hcz90_0
     try clear hcz90_1
     try clear hcz90_2
     try clear hcz90_3
     try clear hcz90_4
     try clear hcz90_5
     try clear hcz98_0
     try clear hcz98_1
     try clear hcz98_2
     try clear hcz98_3
     try clear hcz98_4
     try clear hcz98_5
     try clear hfz13_0
     try clear hfz13_1
     try clear hfz13_2
     try clear hfz13_3
     try clear hfz13_4
     try clear hfz13_5
     try clear hfz15_0
     try clear hfz15_1
     try clear hfz15_2
     try clear hfz15_3
     try clear hfz15_4
     try clear hfz15_5
     try clear hfz19_0
     try clear hfz19_1
     try clear hfz19_2
     try clear hfz19_3
     try clear hfz19_4
     try clear hfz19_5
     try clear hfz29_0
     try clear hfz29_1
     try clear hfz29_2
     try clear hfz29_3
     try clear hfz29_4
     try clear hfz29_5
     try clear hfz31_0
     try clear hfz31_1
     try clear hfz31_2
     try clear hfz31_3
     try clear hfz31_4
     try clear hfz31_5
     try clear hfz48_0
     try clear hfz48_1
     try clear hfz48_2
     try clear hfz48_3
     try clear hfz48_4
     try clear hfz48_5
     try clear hfz51_0
     try clear hfz51_1
     try clear hfz51_2
     try clear hfz51_3
     try clear hfz51_4
     try clear hfz51_5
     try clear hfz59_0
     try clear hfz59_1
     try clear hfz59_2
     try clear hfz59_3
     try clear hfz59_4
     try clear hfz59_5
     try clear hfz62_0
     try clear hfz62_1
     try clear hfz62_2
     try clear hfz62_3
     try clear hfz62_4
     try clear hfz62_5
     try clear hfz70_0
     try clear hfz70_1
     try clear hfz70_2
     try clear hfz70_3
     try clear hfz70_4
     try clear hfz70_5
     try clear hfz73_0
     try clear hfz73_1
     try clear hfz73_2
     try clear hfz73_3
     try clear hfz73_4
     try clear hfz73_5
     try clear hfz80_0
     try clear hfz80_1
     try clear hfz80_2
     try clear hfz80_3
     try clear hfz80_4
     try clear hfz80_5
     try clear hfz83_0
     try clear hfz83_1
     try clear hfz83_2
     try clear hfz83_3
     try clear hfz83_4
     try clear hfz83_5
     try clear hfz90_0
     try clear hfz90_1
     try clear hfz90_2
     try clear hfz90_3
     try clear hfz90_4
     try clear hfz90_5
     try clear hfz98_0
     try clear hfz98_1
     try clear hfz98_2
     try clear hfz98_3
     try clear hfz98_4
     try clear hfz98_5
     try clear p2
     obtain ⟨kq, HA, HJ26, HO_5, BK493, BK494, HB⟩ := hcut
     cases kq with
     | zero => exact absurd HA.out (by simp [terrierlaw13_RecordBack.j1])
     | succ kj26 =>
      have H := HA.out
      clear HA
      simp only [terrierlaw13_RecordBack.j1] at H
      by_cases c100 : t502 = 0
      ·
       rw [if_pos c100] at H
       have c100b0 : (t502 == 0) = true := beq_iff_eq.mpr c100
       have c100b1 : (t502 != 0) = false := bne_eq_false_iff_eq.mpr c100
       clear c100
       replace H := Option.bind_eq_some_iff.mp H
       obtain ⟨⟨t523, t526, t529, t530, t531, t532, t533, t534⟩, A1010, H⟩ := H
       replace H : ((record_Encode.f kj26 l1_0 l1_1 a1_2 a1_3 a1_4 a1_5).bind fun bt536 => (if t534 = 0 then (if t533 = true then (some false) else ((record_Same.f l0_0 l0_1 a0_2 a0_3 a0_4 a0_5 t523 t526 t529 t530 t531 t532).bind fun t540 => (if t540 = true then (if bt536.2 = 0 then ((terrierref01_Same.f t499 bt536.1).bind fun t541 => ((record_Same.f l0_0 l0_1 a0_2 a0_3 a0_4 a0_5 l1_0 l1_1 a1_2 a1_3 a1_4 a1_5).bind fun t542 => (some (t541 == t542)))) else (some true)) else (some false)))) else (some false))) = some r := H
       have A101 := Aside0.mk A1010
       clear A1010
       replace H := Option.bind_eq_some_iff.mp H
       obtain ⟨⟨t536, t539⟩, A1020, H⟩ := H
       replace H : (if t534 = 0 then (if t533 = true then (some false) else ((record_Same.f l0_0 l0_1 a0_2 a0_3 a0_4 a0_5 t523 t526 t529 t530 t531 t532).bind fun t540 => (if t540 = true then (if t539 = 0 then ((terrierref01_Same.f t499 t536).bind fun t541 => ((record_Same.f l0_0 l0_1 a0_2 a0_3 a0_4 a0_5 l1_0 l1_1 a1_2 a1_3 a1_4 a1_5).bind fun t542 => (some (t541 == t542)))) else (some true)) else (some false)))) else (some false)) = some r := H
       have A102 := Aside0.mk A1020
       clear A1020
       by_cases c103 : t534 = 0
       ·
        rw [if_pos c103] at H
        have c103b0 : (t534 == 0) = true := beq_iff_eq.mpr c103
        have c103b1 : (t534 != 0) = false := bne_eq_false_iff_eq.mpr c103
        clear c103
        by_cases c104 : t533 = true
        ·
         subst c104
         have H1 : (some false) = some r := by rw [if_pos rfl] at H; exact H
         clear H
         have H := H1
         clear H1
         obtain rfl := Option.some.inj H
         obtain ⟨Ao105, co105, eo105⟩ := Kd.R_slice HO_5.out
         subst eo105
         try go_wp2_with (first | ((with_reducible refine gate_callee (f := 21) rfl ?_); refine goesL_ (some 80) rfl rfl Try.func21 (by kernel_rfl) rfl #[.slice Ao105 t499.length co105] rfl (by (try simp only [List.map_toArray, List.map_cons, List.map_nil]); first | done | rfl | (simp only [List.length_drop, List.length_take]; rfl)) ?_; (with_reducible refine (record_Decode.calls kj26 _ _ t499 t523 t526 t529 t530 t531 t532 true t534 _ ?side1 ?side2 A101.out).mono ?_); (case side1 => repeat (first | exact (Kd.R_reads' HO_5.out).2.2 | (with_reducible refine Kd.C_alloc ?_ _) | (with_reducible refine Kd.C_drewN ?_ _) | (with_reducible refine Kd.C_drew ?_))); (case side2 => exact (Kd.R_reads' HO_5.out).2.1); rintro e w106 ⟨v524, v527, rfl, ho0, ho1, hb⟩; refine ⟨_, rfl, ?_⟩; have n0_ := Aside0.mk (Kd.R_mono (Kd.R_told (Kd.R_told (Kd.R_old (by (with_reducible repeat (first | apply Kd.R_alloc | apply Kd.R_drewN | apply Kd.R_drew)); exact HO_5.out) hb) (Kd.R_base ho0)) (Kd.R_base ho1)) (fun _ h_ => h_.1)); have n1_ := Aside0.mk (Kd.R_lower (Kd.R_new' ho0 (Kd.R_lt (by (with_reducible repeat (first | apply Kd.R_alloc | apply Kd.R_drewN | apply Kd.R_drew)); exact HO_5.out))) (below_size (by repeat (first | (with_reducible first | exact HB.out | apply below_alloc | apply pw_below_drewN | apply below_drew1 | refine below_set ?_ GE493.out | refine below_set ?_ GE494.out) | exact HB.out | exact Below.refl _ _)))); have n2_ := Aside0.mk (Kd.R_lower (Kd.R_new' ho1 (Kd.R_lt (by (with_reducible repeat (first | apply Kd.R_alloc | apply Kd.R_drewN | apply Kd.R_drew)); exact HO_5.out))) (below_size (by repeat (first | (with_reducible first | exact HB.out | apply below_alloc | apply pw_below_drewN | apply below_drew1 | refine below_set ?_ GE493.out | refine below_set ?_ GE494.out) | exact HB.out | exact Below.refl _ _)))); have n3_ := Aside0.mk (blk_below BK493.out hb); have n4_ := Aside0.mk (blk_below BK494.out hb); have n5_ := Aside0.mk (below_step (by repeat (first | (with_reducible first | exact HB.out | apply below_alloc | apply pw_below_drewN | apply below_drew1 | refine below_set ?_ GE493.out | refine below_set ?_ GE494.out) | exact HB.out | exact Below.refl _ _)) hb); clear HO_5; clear BK493; clear BK494; clear HB; have HO_5 := n0_; have HO525 := n1_; have HO528 := n2_; have BK493 := n3_; have BK494 := n4_; have HB := n5_; clear n0_ n1_ n2_ n3_ n4_ n5_; (try clear hb); (try clear hb2); (try clear hk); (try clear hi); (try clear ho0); (try clear ho1)) | ((with_reducible refine gate_dst (N := 12) rfl ?_); refine box_event ?hg (N := 12) ?hd (cs := #[.slice none 0 0, .slice none 0 0, .int .i64 0, .int .i64 0, .int .i64 0, .int .i64 0]) (t := 24) ?hr ?_; (case hd => rfl); (case hg => rfl); (case hr => first | (go_simp; done) | (go_simp; rfl)); intro gb535 hg w107 hbox hb; have n0_ := Aside0.mk (Kd.R_below (by (with_reducible repeat (first | apply Kd.R_alloc | apply Kd.R_drewN | apply Kd.R_drew)); exact HO_5.out) hb); have n1_ := Aside0.mk (Kd.R_below (by (with_reducible repeat (first | apply Kd.R_alloc | apply Kd.R_drewN | apply Kd.R_drew)); exact HO525.out) hb); have n2_ := Aside0.mk (Kd.R_below (by (with_reducible repeat (first | apply Kd.R_alloc | apply Kd.R_drewN | apply Kd.R_drew)); exact HO528.out) hb); have n3_ := Aside0.mk (blk_below BK493.out hb); have n4_ := Aside0.mk (blk_below BK494.out hb); have n5_ := Aside0.mk (below_step (by repeat (first | (with_reducible first | exact HB.out | apply below_alloc | apply pw_below_drewN | apply below_drew1 | refine below_set ?_ GE493.out | refine below_set ?_ GE494.out) | exact HB.out | exact Below.refl _ _)) hb); have n6_ := Aside0.mk (hbox); have n7_ := Aside0.mk ((by rw [hg]; exact (below_size (by repeat (first | (with_reducible first | exact HB.out | apply below_alloc | apply pw_below_drewN | apply below_drew1 | refine below_set ?_ GE493.out | refine below_set ?_ GE494.out) | exact HB.out | exact Below.refl _ _))) : w.heap.size ≤ gb535)); have n8_ := Aside0.mk ((by rw [hg]; exact (below_size (by repeat (first | (with_reducible first | exact HB.out | apply below_alloc | apply pw_below_drewN | apply below_drew1 | refine below_set ?_ GE493.out | refine below_set ?_ GE494.out) | exact HB.out | exact Below.refl _ _))) : w.heap.size ≤ gb535)); have n9_ := Aside0.mk ((by rw [hg]; exact Nat.ne_of_lt (blk_lt BK493.out) : gb493 ≠ gb535)); have n10_ := Aside0.mk ((by rw [hg]; exact Nat.ne_of_gt (blk_lt BK493.out) : gb535 ≠ gb493)); have n11_ := Aside0.mk ((by rw [hg]; exact Nat.ne_of_lt (blk_lt BK494.out) : gb494 ≠ gb535)); have n12_ := Aside0.mk ((by rw [hg]; exact Nat.ne_of_gt (blk_lt BK494.out) : gb535 ≠ gb494)); clear HO_5; clear HO525; clear HO528; clear BK493; clear BK494; clear HB; have HO_5 := n0_; have HO525 := n1_; have HO528 := n2_; have BK493 := n3_; have BK494 := n4_; have HB := n5_; have BK535 := n6_; have GW535 := n7_; have GE535 := n8_; have NB493_535 := n9_; have NB535_493 := n10_; have NB494_535 := n11_; have NB535_494 := n12_; clear n0_ n1_ n2_ n3_ n4_ n5_ n6_ n7_ n8_ n9_ n10_ n11_ n12_; clear hb hbox hg; obtain ⟨Ao108, co108, eo108⟩ := Kd.R_slice HO525.out; subst eo108; have hnb109 := NB535_493.out; have hnc109 := NB493_535.out; have hnb110 := NB535_494.out; have hnc110 := NB494_535.out; have hcz111_0 : w107.cell? ⟨gb535, 0, none⟩ = some (.slice none 0 0) := (blk_cell BK535.out 0).trans rfl; have hcz111_1 : w107.cell? ⟨gb535, 1, none⟩ = some (.slice none 0 0) := (blk_cell BK535.out 1).trans rfl; have hcz111_2 : w107.cell? ⟨gb535, 2, none⟩ = some (.int .i64 0) := (blk_cell BK535.out 2).trans rfl; have hcz111_3 : w107.cell? ⟨gb535, 3, none⟩ = some (.int .i64 0) := (blk_cell BK535.out 3).trans rfl; have hcz111_4 : w107.cell? ⟨gb535, 4, none⟩ = some (.int .i64 0) := (blk_cell BK535.out 4).trans rfl; have hcz111_5 : w107.cell? ⟨gb535, 5, none⟩ = some (.int .i64 0) := (blk_cell BK535.out 5).trans rfl; have hfz111_0 := blk_frozen BK535.out 0; have hfz111_1 := blk_frozen BK535.out 1; have hfz111_2 := blk_frozen BK535.out 2; have hfz111_3 := blk_frozen BK535.out 3; have hfz111_4 := blk_frozen BK535.out 4; have hfz111_5 := blk_frozen BK535.out 5; obtain ⟨Ao112, co112, eo112⟩ := Kd.R_slice HO528.out; subst eo112; have hnb113 := NB494_493.out; have hnc113 := NB493_494.out; have hcz114_0 : w107.cell? ⟨gb494, 0, none⟩ = some (.slice A1_0 l1_0.length c1_0) := (blk_cell BK494.out 0).trans rfl; have hcz114_1 : w107.cell? ⟨gb494, 1, none⟩ = some (.slice A1_1 l1_1.length c1_1) := (blk_cell BK494.out 1).trans rfl; have hcz114_2 : w107.cell? ⟨gb494, 2, none⟩ = some (.int .i64 a1_2) := (blk_cell BK494.out 2).trans rfl; have hcz114_3 : w107.cell? ⟨gb494, 3, none⟩ = some (.int .i64 a1_3) := (blk_cell BK494.out 3).trans rfl; have hcz114_4 : w107.cell? ⟨gb494, 4, none⟩ = some (.int .i64 a1_4) := (blk_cell BK494.out 4).trans rfl; have hcz114_5 : w107.cell? ⟨gb494, 5, none⟩ = some (.int .i64 a1_5) := (blk_cell BK494.out 5).trans rfl; have hfz114_0 := blk_frozen BK494.out 0; have hfz114_1 := blk_frozen BK494.out 1; have hfz114_2 := blk_frozen BK494.out 2; have hfz114_3 := blk_frozen BK494.out 3; have hfz114_4 := blk_frozen BK494.out 4; have hfz114_5 := blk_frozen BK494.out 5) | ((with_reducible refine gate_callee (f := 10) rfl ?_); refine goesL_ (some 86) rfl rfl Try.func10 (by kernel_rfl) rfl #[.agg #[.slice A1_0 l1_0.length c1_0, .slice A1_1 l1_1.length c1_1, .int .i64 a1_2, .int .i64 a1_3, .int .i64 a1_4, .int .i64 a1_5]] rfl (by (try simp only [List.map_toArray, List.map_cons, List.map_nil]); first | done | rfl | (simp only [List.length_drop, List.length_take]; rfl)) ?_; (with_reducible refine (record_Encode.calls kj26 _ _ l1_0 _ _ l1_1 a1_2 a1_3 a1_4 a1_5 t536 t539 _ ?side1 ?side2 ?side3 ?side4 A102.out).mono ?_); (case side1 => exact Kd.C_below HR1_0.out (by repeat (first | (with_reducible first | exact HB.out | apply below_alloc | apply pw_below_drewN | apply below_drew1 | refine below_set ?_ GE493.out | refine below_set ?_ GE494.out | refine below_set ?_ GE535.out) | exact HB.out | exact Below.refl _ _))); (case side2 => exact HC1_0.out); (case side3 => exact Kd.C_below HR1_1.out (by repeat (first | (with_reducible first | exact HB.out | apply below_alloc | apply pw_below_drewN | apply below_drew1 | refine below_set ?_ GE493.out | refine below_set ?_ GE494.out | refine below_set ?_ GE535.out) | exact HB.out | exact Below.refl _ _))); (case side4 => exact HC1_1.out); rintro e w115 ⟨v537, rfl, ho0, hb⟩; refine ⟨_, rfl, ?_⟩; have n0_ := Aside0.mk (Kd.R_elder' (by (with_reducible repeat (first | apply Kd.R_alloc | apply Kd.R_drewN | apply Kd.R_drew)); exact (Kd.R_mono (Kd.R_far (p := ⟨gb535, 5, none⟩) (Kd.R_far (p := ⟨gb535, 4, none⟩) (Kd.R_far (p := ⟨gb535, 3, none⟩) (Kd.R_far (p := ⟨gb535, 2, none⟩) (Kd.R_far (p := ⟨gb535, 1, none⟩) (Kd.R_far (p := ⟨gb535, 0, none⟩) (Kd.R_types HO_5.out BK535.out (by decide)) (fun _ hk => hk.2) (.slice Ao108 t523.length co108)) (fun _ hk => hk.2) (.slice Ao112 t526.length co112)) (fun _ hk => hk.2) (.int .i64 t529)) (fun _ hk => hk.2) (.int .i64 t530)) (fun _ hk => hk.2) (.int .i64 t531)) (fun _ hk => hk.2) (.int .i64 t532)) (fun _ h_ => h_.1))) (Kd.R_base ho0) hb); have n1_ := Aside0.mk (Kd.R_elder' (by (with_reducible repeat (first | apply Kd.R_alloc | apply Kd.R_drewN | apply Kd.R_drew)); exact (Kd.R_mono (Kd.R_far (p := ⟨gb535, 5, none⟩) (Kd.R_far (p := ⟨gb535, 4, none⟩) (Kd.R_far (p := ⟨gb535, 3, none⟩) (Kd.R_far (p := ⟨gb535, 2, none⟩) (Kd.R_far (p := ⟨gb535, 1, none⟩) (Kd.R_far (p := ⟨gb535, 0, none⟩) (Kd.R_types HO525.out BK535.out (by decide)) (fun _ hk => hk.2) (.slice Ao108 t523.length co108)) (fun _ hk => hk.2) (.slice Ao112 t526.length co112)) (fun _ hk => hk.2) (.int .i64 t529)) (fun _ hk => hk.2) (.int .i64 t530)) (fun _ hk => hk.2) (.int .i64 t531)) (fun _ hk => hk.2) (.int .i64 t532)) (fun _ h_ => h_.1))) (Kd.R_base ho0) hb); have n2_ := Aside0.mk (Kd.R_elder' (by (with_reducible repeat (first | apply Kd.R_alloc | apply Kd.R_drewN | apply Kd.R_drew)); exact (Kd.R_mono (Kd.R_far (p := ⟨gb535, 5, none⟩) (Kd.R_far (p := ⟨gb535, 4, none⟩) (Kd.R_far (p := ⟨gb535, 3, none⟩) (Kd.R_far (p := ⟨gb535, 2, none⟩) (Kd.R_far (p := ⟨gb535, 1, none⟩) (Kd.R_far (p := ⟨gb535, 0, none⟩) (Kd.R_types HO528.out BK535.out (by decide)) (fun _ hk => hk.2) (.slice Ao108 t523.length co108)) (fun _ hk => hk.2) (.slice Ao112 t526.length co112)) (fun _ hk => hk.2) (.int .i64 t529)) (fun _ hk => hk.2) (.int .i64 t530)) (fun _ hk => hk.2) (.int .i64 t531)) (fun _ hk => hk.2) (.int .i64 t532)) (fun _ h_ => h_.1))) (Kd.R_base ho0) hb); have n3_ := Aside0.mk (Kd.R_lower (Kd.R_new' (Kd.R_new' (Kd.R_new' ho0 (Kd.R_lt (by (with_reducible repeat (first | apply Kd.R_alloc | apply Kd.R_drewN | apply Kd.R_drew)); exact (Kd.R_mono (Kd.R_far (p := ⟨gb535, 5, none⟩) (Kd.R_far (p := ⟨gb535, 4, none⟩) (Kd.R_far (p := ⟨gb535, 3, none⟩) (Kd.R_far (p := ⟨gb535, 2, none⟩) (Kd.R_far (p := ⟨gb535, 1, none⟩) (Kd.R_far (p := ⟨gb535, 0, none⟩) (Kd.R_types HO_5.out BK535.out (by decide)) (fun _ hk => hk.2) (.slice Ao108 t523.length co108)) (fun _ hk => hk.2) (.slice Ao112 t526.length co112)) (fun _ hk => hk.2) (.int .i64 t529)) (fun _ hk => hk.2) (.int .i64 t530)) (fun _ hk => hk.2) (.int .i64 t531)) (fun _ hk => hk.2) (.int .i64 t532)) (fun _ h_ => h_.1))))) (Kd.R_lt (by (with_reducible repeat (first | apply Kd.R_alloc | apply Kd.R_drewN | apply Kd.R_drew)); exact (Kd.R_mono (Kd.R_far (p := ⟨gb535, 5, none⟩) (Kd.R_far (p := ⟨gb535, 4, none⟩) (Kd.R_far (p := ⟨gb535, 3, none⟩) (Kd.R_far (p := ⟨gb535, 2, none⟩) (Kd.R_far (p := ⟨gb535, 1, none⟩) (Kd.R_far (p := ⟨gb535, 0, none⟩) (Kd.R_types HO525.out BK535.out (by decide)) (fun _ hk => hk.2) (.slice Ao108 t523.length co108)) (fun _ hk => hk.2) (.slice Ao112 t526.length co112)) (fun _ hk => hk.2) (.int .i64 t529)) (fun _ hk => hk.2) (.int .i64 t530)) (fun _ hk => hk.2) (.int .i64 t531)) (fun _ hk => hk.2) (.int .i64 t532)) (fun _ h_ => h_.1))))) (Kd.R_lt (by (with_reducible repeat (first | apply Kd.R_alloc | apply Kd.R_drewN | apply Kd.R_drew)); exact (Kd.R_mono (Kd.R_far (p := ⟨gb535, 5, none⟩) (Kd.R_far (p := ⟨gb535, 4, none⟩) (Kd.R_far (p := ⟨gb535, 3, none⟩) (Kd.R_far (p := ⟨gb535, 2, none⟩) (Kd.R_far (p := ⟨gb535, 1, none⟩) (Kd.R_far (p := ⟨gb535, 0, none⟩) (Kd.R_types HO528.out BK535.out (by decide)) (fun _ hk => hk.2) (.slice Ao108 t523.length co108)) (fun _ hk => hk.2) (.slice Ao112 t526.length co112)) (fun _ hk => hk.2) (.int .i64 t529)) (fun _ hk => hk.2) (.int .i64 t530)) (fun _ hk => hk.2) (.int .i64 t531)) (fun _ hk => hk.2) (.int .i64 t532)) (fun _ h_ => h_.1))))) (below_size (by repeat (first | (with_reducible first | exact HB.out | apply below_alloc | apply pw_below_drewN | apply below_drew1 | refine below_set ?_ GE493.out | refine below_set ?_ GE494.out | refine below_set ?_ GE535.out) | exact HB.out | exact Below.refl _ _)))); have n4_ := Aside0.mk (blk_below (g := gb493) (o := .cells #[.slice A0_0 l0_0.length c0_0, .slice A0_1 l0_1.length c0_1, .int .i64 a0_2, .int .i64 a0_3, .int .i64 a0_4, .int .i64 a0_5] 24 (0, 0)) (by refine blk_far ?_ NB493_535.out _; refine blk_far ?_ NB493_535.out _; refine blk_far ?_ NB493_535.out _; refine blk_far ?_ NB493_535.out _; refine blk_far ?_ NB493_535.out _; refine blk_far ?_ NB493_535.out _; exact BK493.out) hb); have n5_ := Aside0.mk (blk_below (g := gb494) (o := .cells #[.slice A1_0 l1_0.length c1_0, .slice A1_1 l1_1.length c1_1, .int .i64 a1_2, .int .i64 a1_3, .int .i64 a1_4, .int .i64 a1_5] 24 (0, 0)) (by refine blk_far ?_ NB494_535.out _; refine blk_far ?_ NB494_535.out _; refine blk_far ?_ NB494_535.out _; refine blk_far ?_ NB494_535.out _; refine blk_far ?_ NB494_535.out _; refine blk_far ?_ NB494_535.out _; exact BK494.out) hb); have n6_ := Aside0.mk (blk_below (g := gb535) (o := .cells #[.slice Ao108 t523.length co108, .slice Ao112 t526.length co112, .int .i64 t529, .int .i64 t530, .int .i64 t531, .int .i64 t532] 24 (0, 0)) (by refine blk_put (cs := #[.slice Ao108 t523.length co108, .slice Ao112 t526.length co112, .int .i64 t529, .int .i64 t530, .int .i64 t531, .int .i64 0]) ?_ 5 _ rfl; refine blk_put (cs := #[.slice Ao108 t523.length co108, .slice Ao112 t526.length co112, .int .i64 t529, .int .i64 t530, .int .i64 0, .int .i64 0]) ?_ 4 _ rfl; refine blk_put (cs := #[.slice Ao108 t523.length co108, .slice Ao112 t526.length co112, .int .i64 t529, .int .i64 0, .int .i64 0, .int .i64 0]) ?_ 3 _ rfl; refine blk_put (cs := #[.slice Ao108 t523.length co108, .slice Ao112 t526.length co112, .int .i64 0, .int .i64 0, .int .i64 0, .int .i64 0]) ?_ 2 _ rfl; refine blk_put (cs := #[.slice Ao108 t523.length co108, .slice none 0 0, .int .i64 0, .int .i64 0, .int .i64 0, .int .i64 0]) ?_ 1 _ rfl; refine blk_put (cs := #[.slice none 0 0, .slice none 0 0, .int .i64 0, .int .i64 0, .int .i64 0, .int .i64 0]) ?_ 0 _ rfl; exact BK535.out) hb); have n7_ := Aside0.mk (below_step (by repeat (first | (with_reducible first | exact HB.out | apply below_alloc | apply pw_below_drewN | apply below_drew1 | refine below_set ?_ GE493.out | refine below_set ?_ GE494.out | refine below_set ?_ GE535.out) | exact HB.out | exact Below.refl _ _)) hb); clear HO_5; clear HO525; clear HO528; clear BK493; clear BK494; clear BK535; clear HB; have HO_5 := n0_; have HO525 := n1_; have HO528 := n2_; have HO538 := n3_; have BK493 := n4_; have BK494 := n5_; have BK535 := n6_; have HB := n7_; clear n0_ n1_ n2_ n3_ n4_ n5_ n6_ n7_; (try clear hb); (try clear hb2); (try clear hk); (try clear hi); (try clear ho0)))
         have n0_ := Aside0.mk (Kd.R_drew HO_5.out)
         have n1_ := Aside0.mk (Kd.R_drew HO525.out)
         have n2_ := Aside0.mk (Kd.R_drew HO528.out)
         have n3_ := Aside0.mk (Kd.R_drew HO538.out)
         have n4_ := Aside0.mk (blk_drew BK493.out)
         have n5_ := Aside0.mk (blk_drew BK494.out)
         have n6_ := Aside0.mk (blk_drew BK535.out)
         have n7_ := Aside0.mk (below_drew1 HB.out)
         clear HO_5
         clear HO525
         clear HO528
         clear HO538
         clear BK493
         clear BK494
         clear BK535
         clear HB
         have HO_5 := n0_
         have HO525 := n1_
         have HO528 := n2_
         have HO538 := n3_
         have BK493 := n4_
         have BK494 := n5_
         have BK535 := n6_
         have HB := n7_
         clear n0_ n1_ n2_ n3_ n4_ n5_ n6_ n7_
         refine start_ (n := 25) (S := fun w' => True) (ds := []) zb6_0 (by kernel_rfl) rfl rfl trivial (fun hHeld => ?_); refine with_tabW terrierlaw13_RecordBack.tab13 terrierlaw13_RecordBack.bits13 (fun HT_ HW_ => ?_)
         generalize w115.drew = w116 at HO_5 HO525 HO528 HO538 BK493 BK494 BK535 HB hHeld ⊢
         refine pure_ (i := 0) (N := some 89) (v := ?_) (a' := ?_) zb6_1 rfl rfl (any_of HT_.out (by kernel_rfl)) (fun _ _ _ h => h) (Or.inl ⟨by rfl, ?_⟩) ?_ ?_
         rotate_left
         ·
          intro w'
          go_simp
          with_reducible rfl
         rotate_left
         ·
          simp only [Act.put, List.setIfInBounds_toArray, List.set_cons_zero, List.set_cons_succ, i64_w, i32_w]
          rfl
         refine pure_ (i := 1) (N := some 90) (v := ?_) (a' := ?_) zb6_2 rfl rfl (any_of HT_.out (by kernel_rfl)) (fun _ _ _ h => h) (Or.inl ⟨by rfl, ?_⟩) ?_ ?_
         rotate_left
         ·
          intro w'
          go_simp
          with_reducible rfl
         rotate_left
         ·
          simp only [Act.put, List.setIfInBounds_toArray, List.set_cons_zero, List.set_cons_succ, i64_w, i32_w]
          rfl
         refine pure_ (i := 2) (N := some 91) (v := ?_) (a' := ?_) zb6_3 rfl rfl (any_of HT_.out (by kernel_rfl)) (fun _ _ _ h => h) (Or.inl ⟨by rfl, ?_⟩) ?_ ?_
         rotate_left
         ·
          intro w'
          go_simp
          with_reducible rfl
         rotate_left
         ·
          simp only [Act.put, List.setIfInBounds_toArray, List.set_cons_zero, List.set_cons_succ, i64_w, i32_w]
          rfl
         refine pure_ (i := 3) (N := some 92) (v := ?_) (a' := ?_) zb6_4 rfl rfl (any_of HT_.out (by kernel_rfl)) (fun _ _ _ h => h) (Or.inl ⟨by rfl, ?_⟩) ?_ ?_
         rotate_left
         ·
          intro w'
          go_simp
          with_reducible rfl
         rotate_left
         ·
          simp only [Act.put, List.setIfInBounds_toArray, List.set_cons_zero, List.set_cons_succ, i64_w, i32_w]
          rfl
         refine pure_ (i := 4) (N := some 93) (v := ?_) (a' := ?_) zb6_5 rfl rfl (any_of HT_.out (by kernel_rfl)) (fun _ _ _ h => h) (Or.inl ⟨by rfl, ?_⟩) ?_ ?_
         rotate_left
         ·
          intro w'
          go_simp
          with_reducible rfl
         rotate_left
         ·
          simp only [Act.put, List.setIfInBounds_toArray, List.set_cons_zero, List.set_cons_succ, i64_w, i32_w]
          rfl
         refine pure_ (i := 5) (N := some 94) (v := ?_) (a' := ?_) zb6_6 rfl rfl (any_of HT_.out (by kernel_rfl)) (fun _ _ _ h => h) (Or.inl ⟨by rfl, ?_⟩) ?_ ?_
         rotate_left
         ·
          intro w'
          go_simp
          with_reducible rfl
         rotate_left
         ·
          simp only [Act.put, List.setIfInBounds_toArray, List.set_cons_zero, List.set_cons_succ, i64_w, i32_w]
          rfl
         refine pure_ (i := 6) (N := some 95) (v := ?_) (a' := ?_) zb6_7 rfl rfl (any_of HT_.out (by kernel_rfl)) (fun _ _ _ h => h) (Or.inl ⟨by rfl, ?_⟩) ?_ ?_
         rotate_left
         ·
          intro w'
          go_simp
          with_reducible rfl
         rotate_left
         ·
          simp only [Act.put, List.setIfInBounds_toArray, List.set_cons_zero, List.set_cons_succ, i64_w, i32_w]
          rfl
         refine pure_ (i := 7) (N := some 96) (v := undef) (a' := ?_) zb6_8 rfl rfl (any_of HT_.out (by kernel_rfl)) (fun _ _ _ h => h) (Or.inr ⟨by rfl, rfl⟩) ?_ ?_
         rotate_left
         ·
          simp only [Act.put, List.setIfInBounds_toArray, List.set_cons_zero, List.set_cons_succ, i64_w, i32_w]
          rfl
         refine pure_ (i := 8) (N := some 97) (v := undef) (a' := ?_) zb6_9 rfl rfl (any_of HT_.out (by kernel_rfl)) (fun _ _ _ h => h) (Or.inr ⟨by rfl, rfl⟩) ?_ ?_
         rotate_left
         ·
          simp only [Act.put, List.setIfInBounds_toArray, List.set_cons_zero, List.set_cons_succ, i64_w, i32_w]
          rfl
         refine pure_ (i := 9) (N := some 98) (v := undef) (a' := ?_) zb6_10 rfl rfl (any_of HT_.out (by kernel_rfl)) (fun _ _ _ h => h) (Or.inr ⟨by rfl, rfl⟩) ?_ ?_
         rotate_left
         ·
          simp only [Act.put, List.setIfInBounds_toArray, List.set_cons_zero, List.set_cons_succ, i64_w, i32_w]
          rfl
         refine pure_ (i := 10) (N := some 99) (v := ?_) (a' := ?_) zb6_11 rfl rfl (any_of HT_.out (by kernel_rfl)) (fun _ _ _ h => h) (Or.inl ⟨by rfl, ?_⟩) ?_ ?_
         rotate_left
         ·
          intro w'
          go_simp
          with_reducible rfl
         rotate_left
         ·
          simp only [Act.put, List.setIfInBounds_toArray, List.set_cons_zero, List.set_cons_succ, i64_w, i32_w]
          rfl
         refine pure_ (i := 11) (N := some 100) (v := ?_) (a' := ?_) zb6_12 rfl rfl (any_of HT_.out (by kernel_rfl)) (fun _ _ _ h => h) (Or.inl ⟨by rfl, ?_⟩) ?_ ?_
         rotate_left
         ·
          intro w'
          go_simp
          with_reducible rfl
         rotate_left
         ·
          simp only [Act.put, List.setIfInBounds_toArray, List.set_cons_zero, List.set_cons_succ, i64_w, i32_w]
          rfl
         refine pure_ (i := 12) (N := some 101) (v := undef) (a' := ?_) zb6_13 rfl rfl (any_of HT_.out (by kernel_rfl)) (fun _ _ _ h => h) (Or.inr ⟨by rfl, rfl⟩) ?_ ?_
         rotate_left
         ·
          simp only [Act.put, List.setIfInBounds_toArray, List.set_cons_zero, List.set_cons_succ, i64_w, i32_w]
          rfl
         refine pure_ (i := 13) (N := some 102) (v := undef) (a' := ?_) zb6_14 rfl rfl (any_of HT_.out (by kernel_rfl)) (fun _ _ _ h => h) (Or.inr ⟨by rfl, rfl⟩) ?_ ?_
         rotate_left
         ·
          simp only [Act.put, List.setIfInBounds_toArray, List.set_cons_zero, List.set_cons_succ, i64_w, i32_w]
          rfl
         refine pure_ (i := 14) (N := some 103) (v := undef) (a' := ?_) zb6_15 rfl rfl (any_of HT_.out (by kernel_rfl)) (fun _ _ _ h => h) (Or.inr ⟨by rfl, rfl⟩) ?_ ?_
         rotate_left
         ·
          simp only [Act.put, List.setIfInBounds_toArray, List.set_cons_zero, List.set_cons_succ, i64_w, i32_w]
          rfl
         refine pure_ (i := 15) (N := some 104) (v := undef) (a' := ?_) zb6_16 rfl rfl (any_of HT_.out (by kernel_rfl)) (fun _ _ _ h => h) (Or.inr ⟨by rfl, rfl⟩) ?_ ?_
         rotate_left
         ·
          simp only [Act.put, List.setIfInBounds_toArray, List.set_cons_zero, List.set_cons_succ, i64_w, i32_w]
          rfl
         refine pure_ (i := 16) (N := some 105) (v := undef) (a' := ?_) zb6_17 rfl rfl (any_of HT_.out (by kernel_rfl)) (fun _ _ _ h => h) (Or.inr ⟨by rfl, rfl⟩) ?_ ?_
         rotate_left
         ·
          simp only [Act.put, List.setIfInBounds_toArray, List.set_cons_zero, List.set_cons_succ, i64_w, i32_w]
          rfl
         refine pure_ (i := 17) (N := some 106) (v := undef) (a' := ?_) zb6_24 rfl rfl (any_of HT_.out (by kernel_rfl)) (fun _ _ _ h => h) (Or.inr ⟨by rfl, rfl⟩) ?_ ?_
         rotate_left
         ·
          simp only [Act.put, List.setIfInBounds_toArray, List.set_cons_zero, List.set_cons_succ, i64_w, i32_w]
          rfl
         refine pure_ (i := 18) (N := some 107) (v := undef) (a' := ?_) zb6_25 rfl rfl (any_of HT_.out (by kernel_rfl)) (fun _ _ _ h => h) (Or.inr ⟨by rfl, rfl⟩) ?_ ?_
         rotate_left
         ·
          simp only [Act.put, List.setIfInBounds_toArray, List.set_cons_zero, List.set_cons_succ, i64_w, i32_w]
          rfl
         refine pure_ (i := 19) (N := some 108) (v := undef) (a' := ?_) zb6_18 rfl rfl (any_of HT_.out (by kernel_rfl)) (fun _ _ _ h => h) (Or.inr ⟨by rfl, rfl⟩) ?_ ?_
         rotate_left
         ·
          simp only [Act.put, List.setIfInBounds_toArray, List.set_cons_zero, List.set_cons_succ, i64_w, i32_w]
          rfl
         refine pure_ (i := 20) (N := some 109) (v := undef) (a' := ?_) zb6_19 rfl rfl (any_of HT_.out (by kernel_rfl)) (fun _ _ _ h => h) (Or.inr ⟨by rfl, rfl⟩) ?_ ?_
         rotate_left
         ·
          simp only [Act.put, List.setIfInBounds_toArray, List.set_cons_zero, List.set_cons_succ, i64_w, i32_w]
          rfl
         refine pure_ (i := 21) (N := some 110) (v := undef) (a' := ?_) zb6_20 rfl rfl (any_of HT_.out (by kernel_rfl)) (fun _ _ _ h => h) (Or.inr ⟨by rfl, rfl⟩) ?_ ?_
         rotate_left
         ·
          simp only [Act.put, List.setIfInBounds_toArray, List.set_cons_zero, List.set_cons_succ, i64_w, i32_w]
          rfl
         refine pure_ (i := 22) (N := some 111) (v := undef) (a' := ?_) zb6_21 rfl rfl (any_of HT_.out (by kernel_rfl)) (fun _ _ _ h => h) (Or.inr ⟨by rfl, rfl⟩) ?_ ?_
         rotate_left
         ·
          simp only [Act.put, List.setIfInBounds_toArray, List.set_cons_zero, List.set_cons_succ, i64_w, i32_w]
          rfl
         refine pure_ (i := 23) (N := some 112) (v := ?_) (a' := ?_) zb6_22 rfl rfl (any_of HT_.out (by kernel_rfl)) (fun _ _ _ h => h) (Or.inl ⟨by rfl, ?_⟩) ?_ ?_
         rotate_left
         ·
          intro w'
          go_simp
          with_reducible rfl
         rotate_left
         ·
          simp only [Act.put, List.setIfInBounds_toArray, List.set_cons_zero, List.set_cons_succ, i64_w, i32_w]
          rfl
         refine pure_ (i := 24) (N := some 4) (v := ?_) (a' := ?_) zb6_23 rfl rfl (any_of HT_.out (by kernel_rfl)) (fun _ _ _ h => h) (Or.inl ⟨by rfl, ?_⟩) ?_ ?_
         rotate_left
         ·
          intro w'
          go_simp
          with_reducible rfl
         rotate_left
         ·
          simp only [Act.put, List.setIfInBounds_toArray, List.set_cons_zero, List.set_cons_succ, i64_w, i32_w]
          rfl
         refine done_ (done_of HT_.out (by kernel_rfl)) ?_
         try go_wp2
         go_ret
         exact ⟨by first | rfl | (simp [errW_none, errW_some] <;> rfl) | (simp [*, errW_none, errW_some] <;> rfl), by repeat (first | (with_reducible first | exact HB.out | apply below_alloc | apply pw_below_drewN | apply below_drew1 | refine below_set ?_ GE493.out | refine below_set ?_ GE494.out | refine below_set ?_ GE535.out) | exact HB.out | exact Below.refl _ _)⟩
        ·
         replace c104 := Bool.eq_false_iff.mpr c104
         subst c104
         have H1 : ((record_Same.f l0_0 l0_1 a0_2 a0_3 a0_4 a0_5 t523 t526 t529 t530 t531 t532).bind fun t540 => (if t540 = true then (if t539 = 0 then ((terrierref01_Same.f t499 t536).bind fun t541 => ((record_Same.f l0_0 l0_1 a0_2 a0_3 a0_4 a0_5 l1_0 l1_1 a1_2 a1_3 a1_4 a1_5).bind fun t542 => (some (t541 == t542)))) else (some true)) else (some false))) = some r := by rw [if_neg (show ¬ (false = true) by decide)] at H; exact H
         clear H
         have H := H1
         clear H1
         replace H := Option.bind_eq_some_iff.mp H
         obtain ⟨t540, A1170, H⟩ := H
         replace H : (if t540 = true then (if t539 = 0 then ((terrierref01_Same.f t499 t536).bind fun t541 => ((record_Same.f l0_0 l0_1 a0_2 a0_3 a0_4 a0_5 l1_0 l1_1 a1_2 a1_3 a1_4 a1_5).bind fun t542 => (some (t541 == t542)))) else (some true)) else (some false)) = some r := H
         have A117 := Aside0.mk A1170
         clear A1170
         by_cases c118 : t540 = true
         ·
          subst c118
          have H1 : (if t539 = 0 then ((terrierref01_Same.f t499 t536).bind fun t541 => ((record_Same.f l0_0 l0_1 a0_2 a0_3 a0_4 a0_5 l1_0 l1_1 a1_2 a1_3 a1_4 a1_5).bind fun t542 => (some (t541 == t542)))) else (some true)) = some r := by rw [if_pos rfl] at H; exact H
          clear H
          have H := H1
          clear H1
          by_cases c119 : t539 = 0
          ·
           rw [if_pos c119] at H
           have c119b0 : (t539 == 0) = true := beq_iff_eq.mpr c119
           have c119b1 : (t539 != 0) = false := bne_eq_false_iff_eq.mpr c119
           clear c119
           replace H := Option.bind_eq_some_iff.mp H
           obtain ⟨t541, A1200, H⟩ := H
           replace H : ((record_Same.f l0_0 l0_1 a0_2 a0_3 a0_4 a0_5 l1_0 l1_1 a1_2 a1_3 a1_4 a1_5).bind fun t542 => (some (t541 == t542))) = some r := H
           have A120 := Aside0.mk A1200
           clear A1200
           replace H := Option.bind_eq_some_iff.mp H
           obtain ⟨t542, A1210, H⟩ := H
           replace H : (some (t541 == t542)) = some r := H
           have A121 := Aside0.mk A1210
           clear A1210
           obtain rfl := Option.some.inj H
           obtain ⟨Ao122, co122, eo122⟩ := Kd.R_slice HO_5.out
           subst eo122
           try go_wp2_with (first | ((with_reducible refine gate_callee (f := 21) rfl ?_); refine goesL_ (some 80) rfl rfl Try.func21 (by kernel_rfl) rfl #[.slice Ao122 t499.length co122] rfl (by (try simp only [List.map_toArray, List.map_cons, List.map_nil]); first | done | rfl | (simp only [List.length_drop, List.length_take]; rfl)) ?_; (with_reducible refine (record_Decode.calls kj26 _ _ t499 t523 t526 t529 t530 t531 t532 false t534 _ ?side1 ?side2 A101.out).mono ?_); (case side1 => repeat (first | exact (Kd.R_reads' HO_5.out).2.2 | (with_reducible refine Kd.C_alloc ?_ _) | (with_reducible refine Kd.C_drewN ?_ _) | (with_reducible refine Kd.C_drew ?_))); (case side2 => exact (Kd.R_reads' HO_5.out).2.1); rintro e w123 ⟨v524, v527, rfl, ho0, ho1, hb⟩; refine ⟨_, rfl, ?_⟩; have n0_ := Aside0.mk (Kd.R_mono (Kd.R_told (Kd.R_told (Kd.R_old (by (with_reducible repeat (first | apply Kd.R_alloc | apply Kd.R_drewN | apply Kd.R_drew)); exact HO_5.out) hb) (Kd.R_base ho0)) (Kd.R_base ho1)) (fun _ h_ => h_.1)); have n1_ := Aside0.mk (Kd.R_lower (Kd.R_new' ho0 (Kd.R_lt (by (with_reducible repeat (first | apply Kd.R_alloc | apply Kd.R_drewN | apply Kd.R_drew)); exact HO_5.out))) (below_size (by repeat (first | (with_reducible first | exact HB.out | apply below_alloc | apply pw_below_drewN | apply below_drew1 | refine below_set ?_ GE493.out | refine below_set ?_ GE494.out) | exact HB.out | exact Below.refl _ _)))); have n2_ := Aside0.mk (Kd.R_lower (Kd.R_new' ho1 (Kd.R_lt (by (with_reducible repeat (first | apply Kd.R_alloc | apply Kd.R_drewN | apply Kd.R_drew)); exact HO_5.out))) (below_size (by repeat (first | (with_reducible first | exact HB.out | apply below_alloc | apply pw_below_drewN | apply below_drew1 | refine below_set ?_ GE493.out | refine below_set ?_ GE494.out) | exact HB.out | exact Below.refl _ _)))); have n3_ := Aside0.mk (blk_below BK493.out hb); have n4_ := Aside0.mk (blk_below BK494.out hb); have n5_ := Aside0.mk (below_step (by repeat (first | (with_reducible first | exact HB.out | apply below_alloc | apply pw_below_drewN | apply below_drew1 | refine below_set ?_ GE493.out | refine below_set ?_ GE494.out) | exact HB.out | exact Below.refl _ _)) hb); clear HO_5; clear BK493; clear BK494; clear HB; have HO_5 := n0_; have HO525 := n1_; have HO528 := n2_; have BK493 := n3_; have BK494 := n4_; have HB := n5_; clear n0_ n1_ n2_ n3_ n4_ n5_; (try clear hb); (try clear hb2); (try clear hk); (try clear hi); (try clear ho0); (try clear ho1)) | ((with_reducible refine gate_dst (N := 12) rfl ?_); refine box_event ?hg (N := 12) ?hd (cs := #[.slice none 0 0, .slice none 0 0, .int .i64 0, .int .i64 0, .int .i64 0, .int .i64 0]) (t := 24) ?hr ?_; (case hd => rfl); (case hg => rfl); (case hr => first | (go_simp; done) | (go_simp; rfl)); intro gb535 hg w124 hbox hb; have n0_ := Aside0.mk (Kd.R_below (by (with_reducible repeat (first | apply Kd.R_alloc | apply Kd.R_drewN | apply Kd.R_drew)); exact HO_5.out) hb); have n1_ := Aside0.mk (Kd.R_below (by (with_reducible repeat (first | apply Kd.R_alloc | apply Kd.R_drewN | apply Kd.R_drew)); exact HO525.out) hb); have n2_ := Aside0.mk (Kd.R_below (by (with_reducible repeat (first | apply Kd.R_alloc | apply Kd.R_drewN | apply Kd.R_drew)); exact HO528.out) hb); have n3_ := Aside0.mk (blk_below BK493.out hb); have n4_ := Aside0.mk (blk_below BK494.out hb); have n5_ := Aside0.mk (below_step (by repeat (first | (with_reducible first | exact HB.out | apply below_alloc | apply pw_below_drewN | apply below_drew1 | refine below_set ?_ GE493.out | refine below_set ?_ GE494.out) | exact HB.out | exact Below.refl _ _)) hb); have n6_ := Aside0.mk (hbox); have n7_ := Aside0.mk ((by rw [hg]; exact (below_size (by repeat (first | (with_reducible first | exact HB.out | apply below_alloc | apply pw_below_drewN | apply below_drew1 | refine below_set ?_ GE493.out | refine below_set ?_ GE494.out) | exact HB.out | exact Below.refl _ _))) : w.heap.size ≤ gb535)); have n8_ := Aside0.mk ((by rw [hg]; exact (below_size (by repeat (first | (with_reducible first | exact HB.out | apply below_alloc | apply pw_below_drewN | apply below_drew1 | refine below_set ?_ GE493.out | refine below_set ?_ GE494.out) | exact HB.out | exact Below.refl _ _))) : w.heap.size ≤ gb535)); have n9_ := Aside0.mk ((by rw [hg]; exact Nat.ne_of_lt (blk_lt BK493.out) : gb493 ≠ gb535)); have n10_ := Aside0.mk ((by rw [hg]; exact Nat.ne_of_gt (blk_lt BK493.out) : gb535 ≠ gb493)); have n11_ := Aside0.mk ((by rw [hg]; exact Nat.ne_of_lt (blk_lt BK494.out) : gb494 ≠ gb535)); have n12_ := Aside0.mk ((by rw [hg]; exact Nat.ne_of_gt (blk_lt BK494.out) : gb535 ≠ gb494)); clear HO_5; clear HO525; clear HO528; clear BK493; clear BK494; clear HB; have HO_5 := n0_; have HO525 := n1_; have HO528 := n2_; have BK493 := n3_; have BK494 := n4_; have HB := n5_; have BK535 := n6_; have GW535 := n7_; have GE535 := n8_; have NB493_535 := n9_; have NB535_493 := n10_; have NB494_535 := n11_; have NB535_494 := n12_; clear n0_ n1_ n2_ n3_ n4_ n5_ n6_ n7_ n8_ n9_ n10_ n11_ n12_; clear hb hbox hg; obtain ⟨Ao125, co125, eo125⟩ := Kd.R_slice HO525.out; subst eo125; have hnb126 := NB535_493.out; have hnc126 := NB493_535.out; have hnb127 := NB535_494.out; have hnc127 := NB494_535.out; have hcz128_0 : w124.cell? ⟨gb535, 0, none⟩ = some (.slice none 0 0) := (blk_cell BK535.out 0).trans rfl; have hcz128_1 : w124.cell? ⟨gb535, 1, none⟩ = some (.slice none 0 0) := (blk_cell BK535.out 1).trans rfl; have hcz128_2 : w124.cell? ⟨gb535, 2, none⟩ = some (.int .i64 0) := (blk_cell BK535.out 2).trans rfl; have hcz128_3 : w124.cell? ⟨gb535, 3, none⟩ = some (.int .i64 0) := (blk_cell BK535.out 3).trans rfl; have hcz128_4 : w124.cell? ⟨gb535, 4, none⟩ = some (.int .i64 0) := (blk_cell BK535.out 4).trans rfl; have hcz128_5 : w124.cell? ⟨gb535, 5, none⟩ = some (.int .i64 0) := (blk_cell BK535.out 5).trans rfl; have hfz128_0 := blk_frozen BK535.out 0; have hfz128_1 := blk_frozen BK535.out 1; have hfz128_2 := blk_frozen BK535.out 2; have hfz128_3 := blk_frozen BK535.out 3; have hfz128_4 := blk_frozen BK535.out 4; have hfz128_5 := blk_frozen BK535.out 5; obtain ⟨Ao129, co129, eo129⟩ := Kd.R_slice HO528.out; subst eo129; have hnb130 := NB494_493.out; have hnc130 := NB493_494.out; have hcz131_0 : w124.cell? ⟨gb494, 0, none⟩ = some (.slice A1_0 l1_0.length c1_0) := (blk_cell BK494.out 0).trans rfl; have hcz131_1 : w124.cell? ⟨gb494, 1, none⟩ = some (.slice A1_1 l1_1.length c1_1) := (blk_cell BK494.out 1).trans rfl; have hcz131_2 : w124.cell? ⟨gb494, 2, none⟩ = some (.int .i64 a1_2) := (blk_cell BK494.out 2).trans rfl; have hcz131_3 : w124.cell? ⟨gb494, 3, none⟩ = some (.int .i64 a1_3) := (blk_cell BK494.out 3).trans rfl; have hcz131_4 : w124.cell? ⟨gb494, 4, none⟩ = some (.int .i64 a1_4) := (blk_cell BK494.out 4).trans rfl; have hcz131_5 : w124.cell? ⟨gb494, 5, none⟩ = some (.int .i64 a1_5) := (blk_cell BK494.out 5).trans rfl; have hfz131_0 := blk_frozen BK494.out 0; have hfz131_1 := blk_frozen BK494.out 1; have hfz131_2 := blk_frozen BK494.out 2; have hfz131_3 := blk_frozen BK494.out 3; have hfz131_4 := blk_frozen BK494.out 4; have hfz131_5 := blk_frozen BK494.out 5) | ((with_reducible refine gate_callee (f := 10) rfl ?_); refine goesL_ (some 86) rfl rfl Try.func10 (by kernel_rfl) rfl #[.agg #[.slice A1_0 l1_0.length c1_0, .slice A1_1 l1_1.length c1_1, .int .i64 a1_2, .int .i64 a1_3, .int .i64 a1_4, .int .i64 a1_5]] rfl (by (try simp only [List.map_toArray, List.map_cons, List.map_nil]); first | done | rfl | (simp only [List.length_drop, List.length_take]; rfl)) ?_; (with_reducible refine (record_Encode.calls kj26 _ _ l1_0 _ _ l1_1 a1_2 a1_3 a1_4 a1_5 t536 t539 _ ?side1 ?side2 ?side3 ?side4 A102.out).mono ?_); (case side1 => exact Kd.C_below HR1_0.out (by repeat (first | (with_reducible first | exact HB.out | apply below_alloc | apply pw_below_drewN | apply below_drew1 | refine below_set ?_ GE493.out | refine below_set ?_ GE494.out | refine below_set ?_ GE535.out) | exact HB.out | exact Below.refl _ _))); (case side2 => exact HC1_0.out); (case side3 => exact Kd.C_below HR1_1.out (by repeat (first | (with_reducible first | exact HB.out | apply below_alloc | apply pw_below_drewN | apply below_drew1 | refine below_set ?_ GE493.out | refine below_set ?_ GE494.out | refine below_set ?_ GE535.out) | exact HB.out | exact Below.refl _ _))); (case side4 => exact HC1_1.out); rintro e w132 ⟨v537, rfl, ho0, hb⟩; refine ⟨_, rfl, ?_⟩; have n0_ := Aside0.mk (Kd.R_elder' (by (with_reducible repeat (first | apply Kd.R_alloc | apply Kd.R_drewN | apply Kd.R_drew)); exact (Kd.R_mono (Kd.R_far (p := ⟨gb535, 5, none⟩) (Kd.R_far (p := ⟨gb535, 4, none⟩) (Kd.R_far (p := ⟨gb535, 3, none⟩) (Kd.R_far (p := ⟨gb535, 2, none⟩) (Kd.R_far (p := ⟨gb535, 1, none⟩) (Kd.R_far (p := ⟨gb535, 0, none⟩) (Kd.R_types HO_5.out BK535.out (by decide)) (fun _ hk => hk.2) (.slice Ao125 t523.length co125)) (fun _ hk => hk.2) (.slice Ao129 t526.length co129)) (fun _ hk => hk.2) (.int .i64 t529)) (fun _ hk => hk.2) (.int .i64 t530)) (fun _ hk => hk.2) (.int .i64 t531)) (fun _ hk => hk.2) (.int .i64 t532)) (fun _ h_ => h_.1))) (Kd.R_base ho0) hb); have n1_ := Aside0.mk (Kd.R_elder' (by (with_reducible repeat (first | apply Kd.R_alloc | apply Kd.R_drewN | apply Kd.R_drew)); exact (Kd.R_mono (Kd.R_far (p := ⟨gb535, 5, none⟩) (Kd.R_far (p := ⟨gb535, 4, none⟩) (Kd.R_far (p := ⟨gb535, 3, none⟩) (Kd.R_far (p := ⟨gb535, 2, none⟩) (Kd.R_far (p := ⟨gb535, 1, none⟩) (Kd.R_far (p := ⟨gb535, 0, none⟩) (Kd.R_types HO525.out BK535.out (by decide)) (fun _ hk => hk.2) (.slice Ao125 t523.length co125)) (fun _ hk => hk.2) (.slice Ao129 t526.length co129)) (fun _ hk => hk.2) (.int .i64 t529)) (fun _ hk => hk.2) (.int .i64 t530)) (fun _ hk => hk.2) (.int .i64 t531)) (fun _ hk => hk.2) (.int .i64 t532)) (fun _ h_ => h_.1))) (Kd.R_base ho0) hb); have n2_ := Aside0.mk (Kd.R_elder' (by (with_reducible repeat (first | apply Kd.R_alloc | apply Kd.R_drewN | apply Kd.R_drew)); exact (Kd.R_mono (Kd.R_far (p := ⟨gb535, 5, none⟩) (Kd.R_far (p := ⟨gb535, 4, none⟩) (Kd.R_far (p := ⟨gb535, 3, none⟩) (Kd.R_far (p := ⟨gb535, 2, none⟩) (Kd.R_far (p := ⟨gb535, 1, none⟩) (Kd.R_far (p := ⟨gb535, 0, none⟩) (Kd.R_types HO528.out BK535.out (by decide)) (fun _ hk => hk.2) (.slice Ao125 t523.length co125)) (fun _ hk => hk.2) (.slice Ao129 t526.length co129)) (fun _ hk => hk.2) (.int .i64 t529)) (fun _ hk => hk.2) (.int .i64 t530)) (fun _ hk => hk.2) (.int .i64 t531)) (fun _ hk => hk.2) (.int .i64 t532)) (fun _ h_ => h_.1))) (Kd.R_base ho0) hb); have n3_ := Aside0.mk (Kd.R_lower (Kd.R_new' (Kd.R_new' (Kd.R_new' ho0 (Kd.R_lt (by (with_reducible repeat (first | apply Kd.R_alloc | apply Kd.R_drewN | apply Kd.R_drew)); exact (Kd.R_mono (Kd.R_far (p := ⟨gb535, 5, none⟩) (Kd.R_far (p := ⟨gb535, 4, none⟩) (Kd.R_far (p := ⟨gb535, 3, none⟩) (Kd.R_far (p := ⟨gb535, 2, none⟩) (Kd.R_far (p := ⟨gb535, 1, none⟩) (Kd.R_far (p := ⟨gb535, 0, none⟩) (Kd.R_types HO_5.out BK535.out (by decide)) (fun _ hk => hk.2) (.slice Ao125 t523.length co125)) (fun _ hk => hk.2) (.slice Ao129 t526.length co129)) (fun _ hk => hk.2) (.int .i64 t529)) (fun _ hk => hk.2) (.int .i64 t530)) (fun _ hk => hk.2) (.int .i64 t531)) (fun _ hk => hk.2) (.int .i64 t532)) (fun _ h_ => h_.1))))) (Kd.R_lt (by (with_reducible repeat (first | apply Kd.R_alloc | apply Kd.R_drewN | apply Kd.R_drew)); exact (Kd.R_mono (Kd.R_far (p := ⟨gb535, 5, none⟩) (Kd.R_far (p := ⟨gb535, 4, none⟩) (Kd.R_far (p := ⟨gb535, 3, none⟩) (Kd.R_far (p := ⟨gb535, 2, none⟩) (Kd.R_far (p := ⟨gb535, 1, none⟩) (Kd.R_far (p := ⟨gb535, 0, none⟩) (Kd.R_types HO525.out BK535.out (by decide)) (fun _ hk => hk.2) (.slice Ao125 t523.length co125)) (fun _ hk => hk.2) (.slice Ao129 t526.length co129)) (fun _ hk => hk.2) (.int .i64 t529)) (fun _ hk => hk.2) (.int .i64 t530)) (fun _ hk => hk.2) (.int .i64 t531)) (fun _ hk => hk.2) (.int .i64 t532)) (fun _ h_ => h_.1))))) (Kd.R_lt (by (with_reducible repeat (first | apply Kd.R_alloc | apply Kd.R_drewN | apply Kd.R_drew)); exact (Kd.R_mono (Kd.R_far (p := ⟨gb535, 5, none⟩) (Kd.R_far (p := ⟨gb535, 4, none⟩) (Kd.R_far (p := ⟨gb535, 3, none⟩) (Kd.R_far (p := ⟨gb535, 2, none⟩) (Kd.R_far (p := ⟨gb535, 1, none⟩) (Kd.R_far (p := ⟨gb535, 0, none⟩) (Kd.R_types HO528.out BK535.out (by decide)) (fun _ hk => hk.2) (.slice Ao125 t523.length co125)) (fun _ hk => hk.2) (.slice Ao129 t526.length co129)) (fun _ hk => hk.2) (.int .i64 t529)) (fun _ hk => hk.2) (.int .i64 t530)) (fun _ hk => hk.2) (.int .i64 t531)) (fun _ hk => hk.2) (.int .i64 t532)) (fun _ h_ => h_.1))))) (below_size (by repeat (first | (with_reducible first | exact HB.out | apply below_alloc | apply pw_below_drewN | apply below_drew1 | refine below_set ?_ GE493.out | refine below_set ?_ GE494.out | refine below_set ?_ GE535.out) | exact HB.out | exact Below.refl _ _)))); have n4_ := Aside0.mk (blk_below (g := gb493) (o := .cells #[.slice A0_0 l0_0.length c0_0, .slice A0_1 l0_1.length c0_1, .int .i64 a0_2, .int .i64 a0_3, .int .i64 a0_4, .int .i64 a0_5] 24 (0, 0)) (by refine blk_far ?_ NB493_535.out _; refine blk_far ?_ NB493_535.out _; refine blk_far ?_ NB493_535.out _; refine blk_far ?_ NB493_535.out _; refine blk_far ?_ NB493_535.out _; refine blk_far ?_ NB493_535.out _; exact BK493.out) hb); have n5_ := Aside0.mk (blk_below (g := gb494) (o := .cells #[.slice A1_0 l1_0.length c1_0, .slice A1_1 l1_1.length c1_1, .int .i64 a1_2, .int .i64 a1_3, .int .i64 a1_4, .int .i64 a1_5] 24 (0, 0)) (by refine blk_far ?_ NB494_535.out _; refine blk_far ?_ NB494_535.out _; refine blk_far ?_ NB494_535.out _; refine blk_far ?_ NB494_535.out _; refine blk_far ?_ NB494_535.out _; refine blk_far ?_ NB494_535.out _; exact BK494.out) hb); have n6_ := Aside0.mk (blk_below (g := gb535) (o := .cells #[.slice Ao125 t523.length co125, .slice Ao129 t526.length co129, .int .i64 t529, .int .i64 t530, .int .i64 t531, .int .i64 t532] 24 (0, 0)) (by refine blk_put (cs := #[.slice Ao125 t523.length co125, .slice Ao129 t526.length co129, .int .i64 t529, .int .i64 t530, .int .i64 t531, .int .i64 0]) ?_ 5 _ rfl; refine blk_put (cs := #[.slice Ao125 t523.length co125, .slice Ao129 t526.length co129, .int .i64 t529, .int .i64 t530, .int .i64 0, .int .i64 0]) ?_ 4 _ rfl; refine blk_put (cs := #[.slice Ao125 t523.length co125, .slice Ao129 t526.length co129, .int .i64 t529, .int .i64 0, .int .i64 0, .int .i64 0]) ?_ 3 _ rfl; refine blk_put (cs := #[.slice Ao125 t523.length co125, .slice Ao129 t526.length co129, .int .i64 0, .int .i64 0, .int .i64 0, .int .i64 0]) ?_ 2 _ rfl; refine blk_put (cs := #[.slice Ao125 t523.length co125, .slice none 0 0, .int .i64 0, .int .i64 0, .int .i64 0, .int .i64 0]) ?_ 1 _ rfl; refine blk_put (cs := #[.slice none 0 0, .slice none 0 0, .int .i64 0, .int .i64 0, .int .i64 0, .int .i64 0]) ?_ 0 _ rfl; exact BK535.out) hb); have n7_ := Aside0.mk (below_step (by repeat (first | (with_reducible first | exact HB.out | apply below_alloc | apply pw_below_drewN | apply below_drew1 | refine below_set ?_ GE493.out | refine below_set ?_ GE494.out | refine below_set ?_ GE535.out) | exact HB.out | exact Below.refl _ _)) hb); clear HO_5; clear HO525; clear HO528; clear BK493; clear BK494; clear BK535; clear HB; have HO_5 := n0_; have HO525 := n1_; have HO528 := n2_; have HO538 := n3_; have BK493 := n4_; have BK494 := n5_; have BK535 := n6_; have HB := n7_; clear n0_ n1_ n2_ n3_ n4_ n5_ n6_ n7_; (try clear hb); (try clear hb2); (try clear hk); (try clear hi); (try clear ho0)))
           have n0_ := Aside0.mk (Kd.R_drew HO_5.out)
           have n1_ := Aside0.mk (Kd.R_drew HO525.out)
           have n2_ := Aside0.mk (Kd.R_drew HO528.out)
           have n3_ := Aside0.mk (Kd.R_drew HO538.out)
           have n4_ := Aside0.mk (blk_drew BK493.out)
           have n5_ := Aside0.mk (blk_drew BK494.out)
           have n6_ := Aside0.mk (blk_drew BK535.out)
           have n7_ := Aside0.mk (below_drew1 HB.out)
           clear HO_5
           clear HO525
           clear HO528
           clear HO538
           clear BK493
           clear BK494
           clear BK535
           clear HB
           have HO_5 := n0_
           have HO525 := n1_
           have HO528 := n2_
           have HO538 := n3_
           have BK493 := n4_
           have BK494 := n5_
           have BK535 := n6_
           have HB := n7_
           clear n0_ n1_ n2_ n3_ n4_ n5_ n6_ n7_
           refine start_ (n := 25) (S := fun w' => w'.cell? ⟨gb493, 0, none⟩ = some (.slice A0_0 l0_0.length c0_0) ∧ w'.cell? ⟨gb493, 1, none⟩ = some (.slice A0_1 l0_1.length c0_1) ∧ w'.cell? ⟨gb493, 2, none⟩ = some (.int .i64 a0_2) ∧ w'.cell? ⟨gb493, 3, none⟩ = some (.int .i64 a0_3) ∧ w'.cell? ⟨gb493, 4, none⟩ = some (.int .i64 a0_4) ∧ w'.cell? ⟨gb493, 5, none⟩ = some (.int .i64 a0_5) ∧ w'.cell? ⟨gb535, 0, none⟩ = some (.slice Ao125 t523.length co125) ∧ w'.cell? ⟨gb535, 1, none⟩ = some (.slice Ao129 t526.length co129) ∧ w'.cell? ⟨gb535, 2, none⟩ = some (.int .i64 t529) ∧ w'.cell? ⟨gb535, 3, none⟩ = some (.int .i64 t530) ∧ w'.cell? ⟨gb535, 4, none⟩ = some (.int .i64 t531) ∧ w'.cell? ⟨gb535, 5, none⟩ = some (.int .i64 t532) ∧ w'.cell? ⟨gb494, 0, none⟩ = some (.slice A1_0 l1_0.length c1_0) ∧ w'.cell? ⟨gb494, 1, none⟩ = some (.slice A1_1 l1_1.length c1_1) ∧ w'.cell? ⟨gb494, 2, none⟩ = some (.int .i64 a1_2) ∧ w'.cell? ⟨gb494, 3, none⟩ = some (.int .i64 a1_3) ∧ w'.cell? ⟨gb494, 4, none⟩ = some (.int .i64 a1_4) ∧ w'.cell? ⟨gb494, 5, none⟩ = some (.int .i64 a1_5)) (ds := []) zb6_0 (by kernel_rfl) rfl rfl ⟨(blk_cell BK493.out 0).trans rfl, (blk_cell BK493.out 1).trans rfl, (blk_cell BK493.out 2).trans rfl, (blk_cell BK493.out 3).trans rfl, (blk_cell BK493.out 4).trans rfl, (blk_cell BK493.out 5).trans rfl, (blk_cell BK535.out 0).trans rfl, (blk_cell BK535.out 1).trans rfl, (blk_cell BK535.out 2).trans rfl, (blk_cell BK535.out 3).trans rfl, (blk_cell BK535.out 4).trans rfl, (blk_cell BK535.out 5).trans rfl, (blk_cell BK494.out 0).trans rfl, (blk_cell BK494.out 1).trans rfl, (blk_cell BK494.out 2).trans rfl, (blk_cell BK494.out 3).trans rfl, (blk_cell BK494.out 4).trans rfl, (blk_cell BK494.out 5).trans rfl⟩ (fun hHeld => ?_); refine with_tabW terrierlaw13_RecordBack.tab13 terrierlaw13_RecordBack.bits13 (fun HT_ HW_ => ?_)
           generalize w132.drew = w133 at HO_5 HO525 HO528 HO538 BK493 BK494 BK535 HB hHeld ⊢
           refine pure_ (i := 0) (N := some 89) (v := ?_) (a' := ?_) zb6_1 rfl rfl (any_of HT_.out (by kernel_rfl)) (fun _ _ _ h => h) (Or.inl ⟨by rfl, ?_⟩) ?_ ?_
           rotate_left
           ·
            intro w'
            go_simp
            with_reducible rfl
           rotate_left
           ·
            simp only [Act.put, List.setIfInBounds_toArray, List.set_cons_zero, List.set_cons_succ, i64_w, i32_w]
            rfl
           refine pure_ (i := 1) (N := some 90) (v := ?_) (a' := ?_) zb6_2 rfl rfl (any_of HT_.out (by kernel_rfl)) (fun _ _ _ h => h) (Or.inl ⟨by rfl, ?_⟩) ?_ ?_
           rotate_left
           ·
            intro w'
            go_simp
            with_reducible rfl
           rotate_left
           ·
            simp only [Act.put, List.setIfInBounds_toArray, List.set_cons_zero, List.set_cons_succ, i64_w, i32_w]
            rfl
           refine pure_ (i := 2) (N := some 91) (v := ?_) (a' := ?_) zb6_3 rfl rfl (any_of HT_.out (by kernel_rfl)) (fun _ _ _ h => h) (Or.inl ⟨by rfl, ?_⟩) ?_ ?_
           rotate_left
           ·
            intro w'
            go_simp
            with_reducible rfl
           rotate_left
           ·
            simp only [Act.put, List.setIfInBounds_toArray, List.set_cons_zero, List.set_cons_succ, i64_w, i32_w]
            rfl
           refine pure_ (i := 3) (N := some 92) (v := ?_) (a' := ?_) zb6_4 rfl rfl (any_of HT_.out (by kernel_rfl)) (fun _ _ _ h => h) (Or.inl ⟨by rfl, ?_⟩) ?_ ?_
           rotate_left
           ·
            intro w'
            go_simp
            with_reducible rfl
           rotate_left
           ·
            simp only [Act.put, List.setIfInBounds_toArray, List.set_cons_zero, List.set_cons_succ, i64_w, i32_w]
            rfl
           refine pure_ (i := 4) (N := some 93) (v := ?_) (a' := ?_) zb6_5 rfl rfl (any_of HT_.out (by kernel_rfl)) (fun _ _ _ h => h) (Or.inl ⟨by rfl, ?_⟩) ?_ ?_
           rotate_left
           ·
            intro w'
            go_simp
            with_reducible rfl
           rotate_left
           ·
            simp only [Act.put, List.setIfInBounds_toArray, List.set_cons_zero, List.set_cons_succ, i64_w, i32_w]
            rfl
           refine pure_ (i := 5) (N := some 94) (v := ?_) (a' := ?_) zb6_6 rfl rfl (any_of HT_.out (by kernel_rfl)) (fun _ _ _ h => h) (Or.inl ⟨by rfl, ?_⟩) ?_ ?_
           rotate_left
           ·
            intro w'
            go_simp
            with_reducible rfl
           rotate_left
           ·
            simp only [Act.put, List.setIfInBounds_toArray, List.set_cons_zero, List.set_cons_succ, i64_w, i32_w]
            rfl
           refine pure_ (i := 6) (N := some 95) (v := ?_) (a' := ?_) zb6_7 rfl rfl (any_of HT_.out (by kernel_rfl)) (fun _ _ _ h => h) (Or.inl ⟨by rfl, ?_⟩) ?_ ?_
           rotate_left
           ·
            intro w'
            go_simp
            with_reducible rfl
           rotate_left
           ·
            simp only [Act.put, List.setIfInBounds_toArray, List.set_cons_zero, List.set_cons_succ, i64_w, i32_w]
            rfl
           refine take_ (i := 7) (N := some 96) (v := ?_) (a' := ?_) zb6_8 rfl rfl (take_ofW HT_.out HW_.out (by kernel_rfl)) (fun _ _ _ h => h) (Or.inl ⟨by rfl, ?_⟩) hHeld ?_ ?_
           rotate_left
           ·
            rintro w' ⟨s0, s1, s2, s3, s4, s5, s6, s7, s8, s9, s10, s11, s12, s13, s14, s15, s16, s17⟩
            go_simp
            with_reducible rfl
           rotate_left
           ·
            simp only [Act.put, List.setIfInBounds_toArray, List.set_cons_zero, List.set_cons_succ, i64_w, i32_w]
            rfl
           refine take_ (i := 8) (N := some 97) (v := ?_) (a' := ?_) zb6_9 rfl rfl (take_ofW HT_.out HW_.out (by kernel_rfl)) (fun _ _ _ h => h) (Or.inl ⟨by rfl, ?_⟩) hHeld ?_ ?_
           rotate_left
           ·
            rintro w' ⟨s0, s1, s2, s3, s4, s5, s6, s7, s8, s9, s10, s11, s12, s13, s14, s15, s16, s17⟩
            go_simp
            with_reducible rfl
           rotate_left
           ·
            simp only [Act.put, List.setIfInBounds_toArray, List.set_cons_zero, List.set_cons_succ, i64_w, i32_w]
            rfl
           refine one_ (i := 9) (N := some 98) zb6_10 rfl rfl (one_of HT_.out (by kernel_rfl)) (by decide) (fun K hK => ?_)
           refine goes_ Try.func19 (by kernel_rfl) rfl #[.agg #[.slice A0_0 l0_0.length c0_0, .slice A0_1 l0_1.length c0_1, .int .i64 a0_2, .int .i64 a0_3, .int .i64 a0_4, .int .i64 a0_5], .agg #[.slice Ao125 t523.length co125, .slice Ao129 t526.length co129, .int .i64 t529, .int .i64 t530, .int .i64 t531, .int .i64 t532]] (by rfl) rfl rfl (by (try simp only [List.map_toArray, List.map_cons, List.map_nil]); first | done | rfl | (simp only [List.length_drop, List.length_take]; rfl)) ?_
           with_reducible refine (record_Same.calls _ _ l0_0 _ _ l0_1 a0_2 a0_3 a0_4 a0_5 _ _ t523 _ _ t526 t529 t530 t531 t532 true _ ?side1 ?side2 ?side3 ?side4 ?side5 ?side6 ?side7 ?side8 A117.out).mono ?_
           (case side1 => repeat (first | exact (Kd.C_below HR0_0.out HB.out) | exact HR0_0.out | (with_reducible refine Kd.C_alloc ?_ _) | (with_reducible refine Kd.C_drewN ?_ _) | (with_reducible refine Kd.C_drew ?_)))
           (case side2 => exact HC0_0.out)
           (case side3 => repeat (first | exact (Kd.C_below HR0_1.out HB.out) | exact HR0_1.out | (with_reducible refine Kd.C_alloc ?_ _) | (with_reducible refine Kd.C_drewN ?_ _) | (with_reducible refine Kd.C_drew ?_)))
           (case side4 => exact HC0_1.out)
           (case side5 => repeat (first | exact (Kd.R_reads' HO525.out).2.2 | (with_reducible refine Kd.C_alloc ?_ _) | (with_reducible refine Kd.C_drewN ?_ _) | (with_reducible refine Kd.C_drew ?_)))
           (case side6 => exact (Kd.R_reads' HO525.out).2.1)
           (case side7 => repeat (first | exact (Kd.R_reads' HO528.out).2.2 | (with_reducible refine Kd.C_alloc ?_ _) | (with_reducible refine Kd.C_drewN ?_ _) | (with_reducible refine Kd.C_drew ?_)))
           (case side8 => exact (Kd.R_reads' HO528.out).2.1)
           rintro e w134 ⟨rfl, hb⟩
           refine ⟨_, rfl, ?_⟩
           have n0_ := Aside0.mk (Kd.R_below (by (with_reducible repeat (first | apply Kd.R_alloc | apply Kd.R_drewN | apply Kd.R_drew)); exact HO_5.out) hb)
           have n1_ := Aside0.mk (Kd.R_below (by (with_reducible repeat (first | apply Kd.R_alloc | apply Kd.R_drewN | apply Kd.R_drew)); exact HO525.out) hb)
           have n2_ := Aside0.mk (Kd.R_below (by (with_reducible repeat (first | apply Kd.R_alloc | apply Kd.R_drewN | apply Kd.R_drew)); exact HO528.out) hb)
           have n3_ := Aside0.mk (Kd.R_below (by (with_reducible repeat (first | apply Kd.R_alloc | apply Kd.R_drewN | apply Kd.R_drew)); exact HO538.out) hb)
           have n4_ := Aside0.mk (blk_below BK493.out hb)
           have n5_ := Aside0.mk (blk_below BK494.out hb)
           have n6_ := Aside0.mk (blk_below BK535.out hb)
           have n7_ := Aside0.mk (below_step (by repeat (first | (with_reducible first | exact HB.out | apply below_alloc | apply pw_below_drewN | apply below_drew1 | refine below_set ?_ GE493.out | refine below_set ?_ GE494.out | refine below_set ?_ GE535.out) | exact HB.out | exact Below.refl _ _)) hb)
           clear HO_5
           clear HO525
           clear HO528
           clear HO538
           clear BK493
           clear BK494
           clear BK535
           clear HB
           have HO_5 := n0_
           have HO525 := n1_
           have HO528 := n2_
           have HO538 := n3_
           have BK493 := n4_
           have BK494 := n5_
           have BK535 := n6_
           have HB := n7_
           clear n0_ n1_ n2_ n3_ n4_ n5_ n6_ n7_
           (try clear hb)
           (try clear hb2)
           (try clear hk)
           (try clear hi)
           obtain ⟨Ao135, co135, eo135⟩ := Kd.R_slice HO538.out
           (first | subst eo135 | (injection eo135 with f1_ f2_ f3_; have f4_ := f1_.symm; have f5_ := f3_.symm; clear f1_ f2_ f3_; subst f4_; subst f5_))
           refine hK.out _ _ ⟨(blk_cell BK493.out 0).trans rfl, (blk_cell BK493.out 1).trans rfl, (blk_cell BK493.out 2).trans rfl, (blk_cell BK493.out 3).trans rfl, (blk_cell BK493.out 4).trans rfl, (blk_cell BK493.out 5).trans rfl, (blk_cell BK535.out 0).trans rfl, (blk_cell BK535.out 1).trans rfl, (blk_cell BK535.out 2).trans rfl, (blk_cell BK535.out 3).trans rfl, (blk_cell BK535.out 4).trans rfl, (blk_cell BK535.out 5).trans rfl, (blk_cell BK494.out 0).trans rfl, (blk_cell BK494.out 1).trans rfl, (blk_cell BK494.out 2).trans rfl, (blk_cell BK494.out 3).trans rfl, (blk_cell BK494.out 4).trans rfl, (blk_cell BK494.out 5).trans rfl⟩ (fun hHeld => ?_)
           clear hK K
           refine norm_ (a' := ?_) ?_ ?_
           rotate_left
           ·
            show Act.put _ (some 98) _ = _
            simp only [Act.put, List.setIfInBounds_toArray, List.set_cons_zero, List.set_cons_succ, i64_w, i32_w]
            rfl
           refine pure_ (i := 10) (N := some 99) (v := ?_) (a' := ?_) zb6_11 rfl rfl (any_of HT_.out (by kernel_rfl)) (fun _ _ _ h => h) (Or.inl ⟨by rfl, ?_⟩) ?_ ?_
           rotate_left
           ·
            intro w'
            go_simp
            with_reducible rfl
           rotate_left
           ·
            simp only [Act.put, List.setIfInBounds_toArray, List.set_cons_zero, List.set_cons_succ, i64_w, i32_w]
            rfl
           refine pure_ (i := 11) (N := some 100) (v := ?_) (a' := ?_) zb6_12 rfl rfl (any_of HT_.out (by kernel_rfl)) (fun _ _ _ h => h) (Or.inl ⟨by rfl, ?_⟩) ?_ ?_
           rotate_left
           ·
            intro w'
            go_simp
            with_reducible rfl
           rotate_left
           ·
            simp only [Act.put, List.setIfInBounds_toArray, List.set_cons_zero, List.set_cons_succ, i64_w, i32_w]
            rfl
           refine pure_ (i := 12) (N := some 101) (v := ?_) (a' := ?_) zb6_13 rfl rfl (any_of HT_.out (by kernel_rfl)) (fun _ _ _ h => h) (Or.inl ⟨by rfl, ?_⟩) ?_ ?_
           rotate_left
           ·
            intro w'
            go_simp
            with_reducible rfl
           rotate_left
           ·
            simp only [Act.put, List.setIfInBounds_toArray, List.set_cons_zero, List.set_cons_succ, i64_w, i32_w]
            rfl
           refine pure_ (i := 13) (N := some 102) (v := ?_) (a' := ?_) zb6_14 rfl rfl (any_of HT_.out (by kernel_rfl)) (fun _ _ _ h => h) (Or.inl ⟨by rfl, ?_⟩) ?_ ?_
           rotate_left
           ·
            intro w'
            go_simp
            with_reducible rfl
           rotate_left
           ·
            simp only [Act.put, List.setIfInBounds_toArray, List.set_cons_zero, List.set_cons_succ, i64_w, i32_w]
            rfl
           refine pure_ (i := 14) (N := some 103) (v := ?_) (a' := ?_) zb6_15 rfl rfl (any_of HT_.out (by kernel_rfl)) (fun _ _ _ h => h) (Or.inl ⟨by rfl, ?_⟩) ?_ ?_
           rotate_left
           ·
            intro w'
            go_simp
            with_reducible rfl
           rotate_left
           ·
            simp only [Act.put, List.setIfInBounds_toArray, List.set_cons_zero, List.set_cons_succ, i64_w, i32_w]
            rfl
           refine pure_ (i := 15) (N := some 104) (v := ?_) (a' := ?_) zb6_16 rfl rfl (any_of HT_.out (by kernel_rfl)) (fun _ _ _ h => h) (Or.inl ⟨by rfl, ?_⟩) ?_ ?_
           rotate_left
           ·
            intro w'
            go_simp
            with_reducible rfl
           rotate_left
           ·
            simp only [Act.put, List.setIfInBounds_toArray, List.set_cons_zero, List.set_cons_succ, i64_w, i32_w]
            rfl
           refine pure_ (i := 16) (N := some 105) (v := ?_) (a' := ?_) zb6_17 rfl rfl (any_of HT_.out (by kernel_rfl)) (fun _ _ _ h => h) (Or.inl ⟨by rfl, ?_⟩) ?_ ?_
           rotate_left
           ·
            intro w'
            go_simp
            with_reducible rfl
           rotate_left
           ·
            simp only [Act.put, List.setIfInBounds_toArray, List.set_cons_zero, List.set_cons_succ, i64_w, i32_w]
            rfl
           refine take_ (i := 18) (N := some 107) (v := ?_) (a' := ?_) #[true, true, true, true, true, true, true, true, true, true, true, true, true, true, true, true, true, false, true, false, false, false, false, false, false] rfl rfl (take_ofW HT_.out HW_.out (by kernel_rfl)) (fun _ _ _ h => h) (Or.inl ⟨by rfl, ?_⟩) hHeld ?_ ?_
           rotate_left
           ·
            rintro w' ⟨s0, s1, s2, s3, s4, s5, s6, s7, s8, s9, s10, s11, s12, s13, s14, s15, s16, s17⟩
            go_simp
            with_reducible rfl
           rotate_left
           ·
            simp only [Act.put, List.setIfInBounds_toArray, List.set_cons_zero, List.set_cons_succ, i64_w, i32_w]
            rfl
           refine take_ (i := 19) (N := some 108) (v := ?_) (a' := ?_) #[true, true, true, true, true, true, true, true, true, true, true, true, true, true, true, true, true, false, true, true, false, false, false, false, false] rfl rfl (take_ofW HT_.out HW_.out (by kernel_rfl)) (fun _ _ _ h => h) (Or.inl ⟨by rfl, ?_⟩) hHeld ?_ ?_
           rotate_left
           ·
            rintro w' ⟨s0, s1, s2, s3, s4, s5, s6, s7, s8, s9, s10, s11, s12, s13, s14, s15, s16, s17⟩
            go_simp
            with_reducible rfl
           rotate_left
           ·
            simp only [Act.put, List.setIfInBounds_toArray, List.set_cons_zero, List.set_cons_succ, i64_w, i32_w]
            rfl
           refine one_ (i := 17) (N := some 106) zb6_18 rfl rfl (one_of HT_.out (by kernel_rfl)) (by decide) (fun K hK => ?_)
           refine goes_ Try.func15 (by kernel_rfl) rfl #[.slice Ao122 t499.length co122, .slice Ao135 t536.length co135] (by rfl) rfl rfl (by (try simp only [List.map_toArray, List.map_cons, List.map_nil]); first | done | rfl | (simp only [List.length_drop, List.length_take]; rfl)) ?_
           with_reducible refine (terrierref01_Same.calls _ _ t499 _ _ t536 t541 _ ?side1 ?side2 ?side3 ?side4 A120.out).mono ?_
           (case side1 => repeat (first | exact (Kd.R_reads' HO_5.out).2.2 | (with_reducible refine Kd.C_alloc ?_ _) | (with_reducible refine Kd.C_drewN ?_ _) | (with_reducible refine Kd.C_drew ?_)))
           (case side2 => exact (Kd.R_reads' HO_5.out).2.1)
           (case side3 => repeat (first | exact (Kd.R_reads' HO538.out).2.2 | (with_reducible refine Kd.C_alloc ?_ _) | (with_reducible refine Kd.C_drewN ?_ _) | (with_reducible refine Kd.C_drew ?_)))
           (case side4 => exact (Kd.R_reads' HO538.out).2.1)
           rintro e w' ⟨rfl, ⟨nd, rfl⟩⟩
           refine ⟨_, rfl, ?_⟩
           refine hK.out _ _ ⟨(blk_cell BK493.out 0).trans rfl, (blk_cell BK493.out 1).trans rfl, (blk_cell BK493.out 2).trans rfl, (blk_cell BK493.out 3).trans rfl, (blk_cell BK493.out 4).trans rfl, (blk_cell BK493.out 5).trans rfl, (blk_cell BK535.out 0).trans rfl, (blk_cell BK535.out 1).trans rfl, (blk_cell BK535.out 2).trans rfl, (blk_cell BK535.out 3).trans rfl, (blk_cell BK535.out 4).trans rfl, (blk_cell BK535.out 5).trans rfl, (blk_cell BK494.out 0).trans rfl, (blk_cell BK494.out 1).trans rfl, (blk_cell BK494.out 2).trans rfl, (blk_cell BK494.out 3).trans rfl, (blk_cell BK494.out 4).trans rfl, (blk_cell BK494.out 5).trans rfl⟩ (fun hHeld => ?_)
           clear hK K
           refine norm_ (a' := ?_) ?_ ?_
           rotate_left
           ·
            show Act.put _ (some 106) _ = _
            simp only [Act.put, List.setIfInBounds_toArray, List.set_cons_zero, List.set_cons_succ, i64_w, i32_w]
            rfl
           refine one_ (i := 20) (N := some 109) zb6_19 rfl rfl (one_of HT_.out (by kernel_rfl)) (by decide) (fun K hK => ?_)
           refine goes_ Try.func19 (by kernel_rfl) rfl #[.agg #[.slice A0_0 l0_0.length c0_0, .slice A0_1 l0_1.length c0_1, .int .i64 a0_2, .int .i64 a0_3, .int .i64 a0_4, .int .i64 a0_5], .agg #[.slice A1_0 l1_0.length c1_0, .slice A1_1 l1_1.length c1_1, .int .i64 a1_2, .int .i64 a1_3, .int .i64 a1_4, .int .i64 a1_5]] (by rfl) rfl rfl (by (try simp only [List.map_toArray, List.map_cons, List.map_nil]); first | done | rfl | (simp only [List.length_drop, List.length_take]; rfl)) ?_
           with_reducible refine (record_Same.calls _ _ l0_0 _ _ l0_1 a0_2 a0_3 a0_4 a0_5 _ _ l1_0 _ _ l1_1 a1_2 a1_3 a1_4 a1_5 t542 _ ?side1 ?side2 ?side3 ?side4 ?side5 ?side6 ?side7 ?side8 A121.out).mono ?_
           (case side1 => repeat (first | exact (Kd.C_below HR0_0.out (by repeat (first | (with_reducible first | exact HB.out | apply below_alloc | apply pw_below_drewN | apply below_drew1 | refine below_set ?_ GE493.out | refine below_set ?_ GE494.out | refine below_set ?_ GE535.out) | exact HB.out | exact Below.refl _ _))) | exact HR0_0.out | (with_reducible refine Kd.C_alloc ?_ _) | (with_reducible refine Kd.C_drewN ?_ _) | (with_reducible refine Kd.C_drew ?_)))
           (case side2 => exact HC0_0.out)
           (case side3 => repeat (first | exact (Kd.C_below HR0_1.out (by repeat (first | (with_reducible first | exact HB.out | apply below_alloc | apply pw_below_drewN | apply below_drew1 | refine below_set ?_ GE493.out | refine below_set ?_ GE494.out | refine below_set ?_ GE535.out) | exact HB.out | exact Below.refl _ _))) | exact HR0_1.out | (with_reducible refine Kd.C_alloc ?_ _) | (with_reducible refine Kd.C_drewN ?_ _) | (with_reducible refine Kd.C_drew ?_)))
           (case side4 => exact HC0_1.out)
           (case side5 => repeat (first | exact (Kd.C_below HR1_0.out (by repeat (first | (with_reducible first | exact HB.out | apply below_alloc | apply pw_below_drewN | apply below_drew1 | refine below_set ?_ GE493.out | refine below_set ?_ GE494.out | refine below_set ?_ GE535.out) | exact HB.out | exact Below.refl _ _))) | exact HR1_0.out | (with_reducible refine Kd.C_alloc ?_ _) | (with_reducible refine Kd.C_drewN ?_ _) | (with_reducible refine Kd.C_drew ?_)))
           (case side6 => exact HC1_0.out)
           (case side7 => repeat (first | exact (Kd.C_below HR1_1.out (by repeat (first | (with_reducible first | exact HB.out | apply below_alloc | apply pw_below_drewN | apply below_drew1 | refine below_set ?_ GE493.out | refine below_set ?_ GE494.out | refine below_set ?_ GE535.out) | exact HB.out | exact Below.refl _ _))) | exact HR1_1.out | (with_reducible refine Kd.C_alloc ?_ _) | (with_reducible refine Kd.C_drewN ?_ _) | (with_reducible refine Kd.C_drew ?_)))
           (case side8 => exact HC1_1.out)
           rintro e w136 ⟨rfl, hb⟩
           refine ⟨_, rfl, ?_⟩
           have n0_ := Aside0.mk (Kd.R_below (by (with_reducible repeat (first | apply Kd.R_alloc | apply Kd.R_drewN | apply Kd.R_drew)); exact HO_5.out) hb)
           have n1_ := Aside0.mk (Kd.R_below (by (with_reducible repeat (first | apply Kd.R_alloc | apply Kd.R_drewN | apply Kd.R_drew)); exact HO525.out) hb)
           have n2_ := Aside0.mk (Kd.R_below (by (with_reducible repeat (first | apply Kd.R_alloc | apply Kd.R_drewN | apply Kd.R_drew)); exact HO528.out) hb)
           have n3_ := Aside0.mk (Kd.R_below (by (with_reducible repeat (first | apply Kd.R_alloc | apply Kd.R_drewN | apply Kd.R_drew)); exact HO538.out) hb)
           have n4_ := Aside0.mk (blk_below (g := gb493) (o := .cells #[.slice A0_0 l0_0.length c0_0, .slice A0_1 l0_1.length c0_1, .int .i64 a0_2, .int .i64 a0_3, .int .i64 a0_4, .int .i64 a0_5] 24 (0, 0)) (by (with_reducible repeat (first | refine blk_drewN ?_ _ | refine blk_drew ?_ | refine blk_alloc ?_ _)); exact BK493.out) hb)
           have n5_ := Aside0.mk (blk_below (g := gb494) (o := .cells #[.slice A1_0 l1_0.length c1_0, .slice A1_1 l1_1.length c1_1, .int .i64 a1_2, .int .i64 a1_3, .int .i64 a1_4, .int .i64 a1_5] 24 (0, 0)) (by (with_reducible repeat (first | refine blk_drewN ?_ _ | refine blk_drew ?_ | refine blk_alloc ?_ _)); exact BK494.out) hb)
           have n6_ := Aside0.mk (blk_below (g := gb535) (o := .cells #[.slice Ao125 t523.length co125, .slice Ao129 t526.length co129, .int .i64 t529, .int .i64 t530, .int .i64 t531, .int .i64 t532] 24 (0, 0)) (by (with_reducible repeat (first | refine blk_drewN ?_ _ | refine blk_drew ?_ | refine blk_alloc ?_ _)); exact BK535.out) hb)
           have n7_ := Aside0.mk (below_step (by repeat (first | (with_reducible first | exact HB.out | apply below_alloc | apply pw_below_drewN | apply below_drew1 | refine below_set ?_ GE493.out | refine below_set ?_ GE494.out | refine below_set ?_ GE535.out) | exact HB.out | exact Below.refl _ _)) hb)
           clear HO_5
           clear HO525
           clear HO528
           clear HO538
           clear BK493
           clear BK494
           clear BK535
           clear HB
           have HO_5 := n0_
           have HO525 := n1_
           have HO528 := n2_
           have HO538 := n3_
           have BK493 := n4_
           have BK494 := n5_
           have BK535 := n6_
           have HB := n7_
           clear n0_ n1_ n2_ n3_ n4_ n5_ n6_ n7_
           (try clear hb)
           (try clear hb2)
           (try clear hk)
           (try clear hi)
           refine hK.out _ _ ⟨(blk_cell BK493.out 0).trans rfl, (blk_cell BK493.out 1).trans rfl, (blk_cell BK493.out 2).trans rfl, (blk_cell BK493.out 3).trans rfl, (blk_cell BK493.out 4).trans rfl, (blk_cell BK493.out 5).trans rfl, (blk_cell BK535.out 0).trans rfl, (blk_cell BK535.out 1).trans rfl, (blk_cell BK535.out 2).trans rfl, (blk_cell BK535.out 3).trans rfl, (blk_cell BK535.out 4).trans rfl, (blk_cell BK535.out 5).trans rfl, (blk_cell BK494.out 0).trans rfl, (blk_cell BK494.out 1).trans rfl, (blk_cell BK494.out 2).trans rfl, (blk_cell BK494.out 3).trans rfl, (blk_cell BK494.out 4).trans rfl, (blk_cell BK494.out 5).trans rfl⟩ (fun hHeld => ?_)
           clear hK K
           refine norm_ (a' := ?_) ?_ ?_
           rotate_left
           ·
            show Act.put _ (some 109) _ = _
            simp only [Act.put, List.setIfInBounds_toArray, List.set_cons_zero, List.set_cons_succ, i64_w, i32_w]
            rfl
           refine pure_ (i := 21) (N := some 110) (v := ?_) (a' := ?_) zb6_20 rfl rfl (any_of HT_.out (by kernel_rfl)) (fun _ _ _ h => h) (Or.inl ⟨by rfl, ?_⟩) ?_ ?_
           rotate_left
           ·
            intro w'
            go_simp
            with_reducible rfl
           rotate_left
           ·
            simp only [Act.put, List.setIfInBounds_toArray, List.set_cons_zero, List.set_cons_succ, i64_w, i32_w]
            rfl
           refine pure_ (i := 22) (N := some 111) (v := ?_) (a' := ?_) zb6_21 rfl rfl (any_of HT_.out (by kernel_rfl)) (fun _ _ _ h => h) (Or.inl ⟨by rfl, ?_⟩) ?_ ?_
           rotate_left
           ·
            intro w'
            go_simp
            with_reducible rfl
           rotate_left
           ·
            simp only [Act.put, List.setIfInBounds_toArray, List.set_cons_zero, List.set_cons_succ, i64_w, i32_w]
            rfl
           refine pure_ (i := 23) (N := some 112) (v := ?_) (a' := ?_) zb6_22 rfl rfl (any_of HT_.out (by kernel_rfl)) (fun _ _ _ h => h) (Or.inl ⟨by rfl, ?_⟩) ?_ ?_
           rotate_left
           ·
            intro w'
            go_simp
            with_reducible rfl
           rotate_left
           ·
            simp only [Act.put, List.setIfInBounds_toArray, List.set_cons_zero, List.set_cons_succ, i64_w, i32_w]
            rfl
           refine pure_ (i := 24) (N := some 4) (v := ?_) (a' := ?_) zb6_23 rfl rfl (any_of HT_.out (by kernel_rfl)) (fun _ _ _ h => h) (Or.inl ⟨by rfl, ?_⟩) ?_ ?_
           rotate_left
           ·
            intro w'
            go_simp
            with_reducible rfl
           rotate_left
           ·
            simp only [Act.put, List.setIfInBounds_toArray, List.set_cons_zero, List.set_cons_succ, i64_w, i32_w]
            rfl
           refine done_ (done_of HT_.out (by kernel_rfl)) ?_
           try go_wp2
           go_ret
           exact ⟨by first | rfl | (simp [errW_none, errW_some] <;> rfl) | (simp [*, errW_none, errW_some] <;> rfl), by repeat (first | (with_reducible first | exact HB.out | apply below_alloc | apply pw_below_drewN | apply below_drew1 | refine below_set ?_ GE493.out | refine below_set ?_ GE494.out | refine below_set ?_ GE535.out) | exact HB.out | exact Below.refl _ _)⟩
          ·
           rw [if_neg c119] at H
           have c119b0 : (t539 == 0) = false := beq_eq_false_iff_ne.mpr c119
           have c119b1 : (t539 != 0) = true := bne_iff_ne.mpr c119
           obtain rfl := Option.some.inj H
           obtain ⟨Ao137, co137, eo137⟩ := Kd.R_slice HO_5.out
           subst eo137
           try go_wp2_with (first | ((with_reducible refine gate_callee (f := 21) rfl ?_); refine goesL_ (some 80) rfl rfl Try.func21 (by kernel_rfl) rfl #[.slice Ao137 t499.length co137] rfl (by (try simp only [List.map_toArray, List.map_cons, List.map_nil]); first | done | rfl | (simp only [List.length_drop, List.length_take]; rfl)) ?_; (with_reducible refine (record_Decode.calls kj26 _ _ t499 t523 t526 t529 t530 t531 t532 false t534 _ ?side1 ?side2 A101.out).mono ?_); (case side1 => repeat (first | exact (Kd.R_reads' HO_5.out).2.2 | (with_reducible refine Kd.C_alloc ?_ _) | (with_reducible refine Kd.C_drewN ?_ _) | (with_reducible refine Kd.C_drew ?_))); (case side2 => exact (Kd.R_reads' HO_5.out).2.1); rintro e w138 ⟨v524, v527, rfl, ho0, ho1, hb⟩; refine ⟨_, rfl, ?_⟩; have n0_ := Aside0.mk (Kd.R_mono (Kd.R_told (Kd.R_told (Kd.R_old (by (with_reducible repeat (first | apply Kd.R_alloc | apply Kd.R_drewN | apply Kd.R_drew)); exact HO_5.out) hb) (Kd.R_base ho0)) (Kd.R_base ho1)) (fun _ h_ => h_.1)); have n1_ := Aside0.mk (Kd.R_lower (Kd.R_new' ho0 (Kd.R_lt (by (with_reducible repeat (first | apply Kd.R_alloc | apply Kd.R_drewN | apply Kd.R_drew)); exact HO_5.out))) (below_size (by repeat (first | (with_reducible first | exact HB.out | apply below_alloc | apply pw_below_drewN | apply below_drew1 | refine below_set ?_ GE493.out | refine below_set ?_ GE494.out) | exact HB.out | exact Below.refl _ _)))); have n2_ := Aside0.mk (Kd.R_lower (Kd.R_new' ho1 (Kd.R_lt (by (with_reducible repeat (first | apply Kd.R_alloc | apply Kd.R_drewN | apply Kd.R_drew)); exact HO_5.out))) (below_size (by repeat (first | (with_reducible first | exact HB.out | apply below_alloc | apply pw_below_drewN | apply below_drew1 | refine below_set ?_ GE493.out | refine below_set ?_ GE494.out) | exact HB.out | exact Below.refl _ _)))); have n3_ := Aside0.mk (blk_below BK493.out hb); have n4_ := Aside0.mk (blk_below BK494.out hb); have n5_ := Aside0.mk (below_step (by repeat (first | (with_reducible first | exact HB.out | apply below_alloc | apply pw_below_drewN | apply below_drew1 | refine below_set ?_ GE493.out | refine below_set ?_ GE494.out) | exact HB.out | exact Below.refl _ _)) hb); clear HO_5; clear BK493; clear BK494; clear HB; have HO_5 := n0_; have HO525 := n1_; have HO528 := n2_; have BK493 := n3_; have BK494 := n4_; have HB := n5_; clear n0_ n1_ n2_ n3_ n4_ n5_; (try clear hb); (try clear hb2); (try clear hk); (try clear hi); (try clear ho0); (try clear ho1)) | ((with_reducible refine gate_dst (N := 12) rfl ?_); refine box_event ?hg (N := 12) ?hd (cs := #[.slice none 0 0, .slice none 0 0, .int .i64 0, .int .i64 0, .int .i64 0, .int .i64 0]) (t := 24) ?hr ?_; (case hd => rfl); (case hg => rfl); (case hr => first | (go_simp; done) | (go_simp; rfl)); intro gb535 hg w139 hbox hb; have n0_ := Aside0.mk (Kd.R_below (by (with_reducible repeat (first | apply Kd.R_alloc | apply Kd.R_drewN | apply Kd.R_drew)); exact HO_5.out) hb); have n1_ := Aside0.mk (Kd.R_below (by (with_reducible repeat (first | apply Kd.R_alloc | apply Kd.R_drewN | apply Kd.R_drew)); exact HO525.out) hb); have n2_ := Aside0.mk (Kd.R_below (by (with_reducible repeat (first | apply Kd.R_alloc | apply Kd.R_drewN | apply Kd.R_drew)); exact HO528.out) hb); have n3_ := Aside0.mk (blk_below BK493.out hb); have n4_ := Aside0.mk (blk_below BK494.out hb); have n5_ := Aside0.mk (below_step (by repeat (first | (with_reducible first | exact HB.out | apply below_alloc | apply pw_below_drewN | apply below_drew1 | refine below_set ?_ GE493.out | refine below_set ?_ GE494.out) | exact HB.out | exact Below.refl _ _)) hb); have n6_ := Aside0.mk (hbox); have n7_ := Aside0.mk ((by rw [hg]; exact (below_size (by repeat (first | (with_reducible first | exact HB.out | apply below_alloc | apply pw_below_drewN | apply below_drew1 | refine below_set ?_ GE493.out | refine below_set ?_ GE494.out) | exact HB.out | exact Below.refl _ _))) : w.heap.size ≤ gb535)); have n8_ := Aside0.mk ((by rw [hg]; exact (below_size (by repeat (first | (with_reducible first | exact HB.out | apply below_alloc | apply pw_below_drewN | apply below_drew1 | refine below_set ?_ GE493.out | refine below_set ?_ GE494.out) | exact HB.out | exact Below.refl _ _))) : w.heap.size ≤ gb535)); have n9_ := Aside0.mk ((by rw [hg]; exact Nat.ne_of_lt (blk_lt BK493.out) : gb493 ≠ gb535)); have n10_ := Aside0.mk ((by rw [hg]; exact Nat.ne_of_gt (blk_lt BK493.out) : gb535 ≠ gb493)); have n11_ := Aside0.mk ((by rw [hg]; exact Nat.ne_of_lt (blk_lt BK494.out) : gb494 ≠ gb535)); have n12_ := Aside0.mk ((by rw [hg]; exact Nat.ne_of_gt (blk_lt BK494.out) : gb535 ≠ gb494)); clear HO_5; clear HO525; clear HO528; clear BK493; clear BK494; clear HB; have HO_5 := n0_; have HO525 := n1_; have HO528 := n2_; have BK493 := n3_; have BK494 := n4_; have HB := n5_; have BK535 := n6_; have GW535 := n7_; have GE535 := n8_; have NB493_535 := n9_; have NB535_493 := n10_; have NB494_535 := n11_; have NB535_494 := n12_; clear n0_ n1_ n2_ n3_ n4_ n5_ n6_ n7_ n8_ n9_ n10_ n11_ n12_; clear hb hbox hg; obtain ⟨Ao140, co140, eo140⟩ := Kd.R_slice HO525.out; subst eo140; have hnb141 := NB535_493.out; have hnc141 := NB493_535.out; have hnb142 := NB535_494.out; have hnc142 := NB494_535.out; have hcz143_0 : w139.cell? ⟨gb535, 0, none⟩ = some (.slice none 0 0) := (blk_cell BK535.out 0).trans rfl; have hcz143_1 : w139.cell? ⟨gb535, 1, none⟩ = some (.slice none 0 0) := (blk_cell BK535.out 1).trans rfl; have hcz143_2 : w139.cell? ⟨gb535, 2, none⟩ = some (.int .i64 0) := (blk_cell BK535.out 2).trans rfl; have hcz143_3 : w139.cell? ⟨gb535, 3, none⟩ = some (.int .i64 0) := (blk_cell BK535.out 3).trans rfl; have hcz143_4 : w139.cell? ⟨gb535, 4, none⟩ = some (.int .i64 0) := (blk_cell BK535.out 4).trans rfl; have hcz143_5 : w139.cell? ⟨gb535, 5, none⟩ = some (.int .i64 0) := (blk_cell BK535.out 5).trans rfl; have hfz143_0 := blk_frozen BK535.out 0; have hfz143_1 := blk_frozen BK535.out 1; have hfz143_2 := blk_frozen BK535.out 2; have hfz143_3 := blk_frozen BK535.out 3; have hfz143_4 := blk_frozen BK535.out 4; have hfz143_5 := blk_frozen BK535.out 5; obtain ⟨Ao144, co144, eo144⟩ := Kd.R_slice HO528.out; subst eo144; have hnb145 := NB494_493.out; have hnc145 := NB493_494.out; have hcz146_0 : w139.cell? ⟨gb494, 0, none⟩ = some (.slice A1_0 l1_0.length c1_0) := (blk_cell BK494.out 0).trans rfl; have hcz146_1 : w139.cell? ⟨gb494, 1, none⟩ = some (.slice A1_1 l1_1.length c1_1) := (blk_cell BK494.out 1).trans rfl; have hcz146_2 : w139.cell? ⟨gb494, 2, none⟩ = some (.int .i64 a1_2) := (blk_cell BK494.out 2).trans rfl; have hcz146_3 : w139.cell? ⟨gb494, 3, none⟩ = some (.int .i64 a1_3) := (blk_cell BK494.out 3).trans rfl; have hcz146_4 : w139.cell? ⟨gb494, 4, none⟩ = some (.int .i64 a1_4) := (blk_cell BK494.out 4).trans rfl; have hcz146_5 : w139.cell? ⟨gb494, 5, none⟩ = some (.int .i64 a1_5) := (blk_cell BK494.out 5).trans rfl; have hfz146_0 := blk_frozen BK494.out 0; have hfz146_1 := blk_frozen BK494.out 1; have hfz146_2 := blk_frozen BK494.out 2; have hfz146_3 := blk_frozen BK494.out 3; have hfz146_4 := blk_frozen BK494.out 4; have hfz146_5 := blk_frozen BK494.out 5) | ((with_reducible refine gate_callee (f := 10) rfl ?_); refine goesL_ (some 86) rfl rfl Try.func10 (by kernel_rfl) rfl #[.agg #[.slice A1_0 l1_0.length c1_0, .slice A1_1 l1_1.length c1_1, .int .i64 a1_2, .int .i64 a1_3, .int .i64 a1_4, .int .i64 a1_5]] rfl (by (try simp only [List.map_toArray, List.map_cons, List.map_nil]); first | done | rfl | (simp only [List.length_drop, List.length_take]; rfl)) ?_; (with_reducible refine (record_Encode.calls kj26 _ _ l1_0 _ _ l1_1 a1_2 a1_3 a1_4 a1_5 t536 t539 _ ?side1 ?side2 ?side3 ?side4 A102.out).mono ?_); (case side1 => exact Kd.C_below HR1_0.out (by repeat (first | (with_reducible first | exact HB.out | apply below_alloc | apply pw_below_drewN | apply below_drew1 | refine below_set ?_ GE493.out | refine below_set ?_ GE494.out | refine below_set ?_ GE535.out) | exact HB.out | exact Below.refl _ _))); (case side2 => exact HC1_0.out); (case side3 => exact Kd.C_below HR1_1.out (by repeat (first | (with_reducible first | exact HB.out | apply below_alloc | apply pw_below_drewN | apply below_drew1 | refine below_set ?_ GE493.out | refine below_set ?_ GE494.out | refine below_set ?_ GE535.out) | exact HB.out | exact Below.refl _ _))); (case side4 => exact HC1_1.out); rintro e w147 ⟨v537, rfl, ho0, hb⟩; refine ⟨_, rfl, ?_⟩; have n0_ := Aside0.mk (Kd.R_elder' (by (with_reducible repeat (first | apply Kd.R_alloc | apply Kd.R_drewN | apply Kd.R_drew)); exact (Kd.R_mono (Kd.R_far (p := ⟨gb535, 5, none⟩) (Kd.R_far (p := ⟨gb535, 4, none⟩) (Kd.R_far (p := ⟨gb535, 3, none⟩) (Kd.R_far (p := ⟨gb535, 2, none⟩) (Kd.R_far (p := ⟨gb535, 1, none⟩) (Kd.R_far (p := ⟨gb535, 0, none⟩) (Kd.R_types HO_5.out BK535.out (by decide)) (fun _ hk => hk.2) (.slice Ao140 t523.length co140)) (fun _ hk => hk.2) (.slice Ao144 t526.length co144)) (fun _ hk => hk.2) (.int .i64 t529)) (fun _ hk => hk.2) (.int .i64 t530)) (fun _ hk => hk.2) (.int .i64 t531)) (fun _ hk => hk.2) (.int .i64 t532)) (fun _ h_ => h_.1))) (Kd.R_base ho0) hb); have n1_ := Aside0.mk (Kd.R_elder' (by (with_reducible repeat (first | apply Kd.R_alloc | apply Kd.R_drewN | apply Kd.R_drew)); exact (Kd.R_mono (Kd.R_far (p := ⟨gb535, 5, none⟩) (Kd.R_far (p := ⟨gb535, 4, none⟩) (Kd.R_far (p := ⟨gb535, 3, none⟩) (Kd.R_far (p := ⟨gb535, 2, none⟩) (Kd.R_far (p := ⟨gb535, 1, none⟩) (Kd.R_far (p := ⟨gb535, 0, none⟩) (Kd.R_types HO525.out BK535.out (by decide)) (fun _ hk => hk.2) (.slice Ao140 t523.length co140)) (fun _ hk => hk.2) (.slice Ao144 t526.length co144)) (fun _ hk => hk.2) (.int .i64 t529)) (fun _ hk => hk.2) (.int .i64 t530)) (fun _ hk => hk.2) (.int .i64 t531)) (fun _ hk => hk.2) (.int .i64 t532)) (fun _ h_ => h_.1))) (Kd.R_base ho0) hb); have n2_ := Aside0.mk (Kd.R_elder' (by (with_reducible repeat (first | apply Kd.R_alloc | apply Kd.R_drewN | apply Kd.R_drew)); exact (Kd.R_mono (Kd.R_far (p := ⟨gb535, 5, none⟩) (Kd.R_far (p := ⟨gb535, 4, none⟩) (Kd.R_far (p := ⟨gb535, 3, none⟩) (Kd.R_far (p := ⟨gb535, 2, none⟩) (Kd.R_far (p := ⟨gb535, 1, none⟩) (Kd.R_far (p := ⟨gb535, 0, none⟩) (Kd.R_types HO528.out BK535.out (by decide)) (fun _ hk => hk.2) (.slice Ao140 t523.length co140)) (fun _ hk => hk.2) (.slice Ao144 t526.length co144)) (fun _ hk => hk.2) (.int .i64 t529)) (fun _ hk => hk.2) (.int .i64 t530)) (fun _ hk => hk.2) (.int .i64 t531)) (fun _ hk => hk.2) (.int .i64 t532)) (fun _ h_ => h_.1))) (Kd.R_base ho0) hb); have n3_ := Aside0.mk (Kd.R_lower (Kd.R_new' (Kd.R_new' (Kd.R_new' ho0 (Kd.R_lt (by (with_reducible repeat (first | apply Kd.R_alloc | apply Kd.R_drewN | apply Kd.R_drew)); exact (Kd.R_mono (Kd.R_far (p := ⟨gb535, 5, none⟩) (Kd.R_far (p := ⟨gb535, 4, none⟩) (Kd.R_far (p := ⟨gb535, 3, none⟩) (Kd.R_far (p := ⟨gb535, 2, none⟩) (Kd.R_far (p := ⟨gb535, 1, none⟩) (Kd.R_far (p := ⟨gb535, 0, none⟩) (Kd.R_types HO_5.out BK535.out (by decide)) (fun _ hk => hk.2) (.slice Ao140 t523.length co140)) (fun _ hk => hk.2) (.slice Ao144 t526.length co144)) (fun _ hk => hk.2) (.int .i64 t529)) (fun _ hk => hk.2) (.int .i64 t530)) (fun _ hk => hk.2) (.int .i64 t531)) (fun _ hk => hk.2) (.int .i64 t532)) (fun _ h_ => h_.1))))) (Kd.R_lt (by (with_reducible repeat (first | apply Kd.R_alloc | apply Kd.R_drewN | apply Kd.R_drew)); exact (Kd.R_mono (Kd.R_far (p := ⟨gb535, 5, none⟩) (Kd.R_far (p := ⟨gb535, 4, none⟩) (Kd.R_far (p := ⟨gb535, 3, none⟩) (Kd.R_far (p := ⟨gb535, 2, none⟩) (Kd.R_far (p := ⟨gb535, 1, none⟩) (Kd.R_far (p := ⟨gb535, 0, none⟩) (Kd.R_types HO525.out BK535.out (by decide)) (fun _ hk => hk.2) (.slice Ao140 t523.length co140)) (fun _ hk => hk.2) (.slice Ao144 t526.length co144)) (fun _ hk => hk.2) (.int .i64 t529)) (fun _ hk => hk.2) (.int .i64 t530)) (fun _ hk => hk.2) (.int .i64 t531)) (fun _ hk => hk.2) (.int .i64 t532)) (fun _ h_ => h_.1))))) (Kd.R_lt (by (with_reducible repeat (first | apply Kd.R_alloc | apply Kd.R_drewN | apply Kd.R_drew)); exact (Kd.R_mono (Kd.R_far (p := ⟨gb535, 5, none⟩) (Kd.R_far (p := ⟨gb535, 4, none⟩) (Kd.R_far (p := ⟨gb535, 3, none⟩) (Kd.R_far (p := ⟨gb535, 2, none⟩) (Kd.R_far (p := ⟨gb535, 1, none⟩) (Kd.R_far (p := ⟨gb535, 0, none⟩) (Kd.R_types HO528.out BK535.out (by decide)) (fun _ hk => hk.2) (.slice Ao140 t523.length co140)) (fun _ hk => hk.2) (.slice Ao144 t526.length co144)) (fun _ hk => hk.2) (.int .i64 t529)) (fun _ hk => hk.2) (.int .i64 t530)) (fun _ hk => hk.2) (.int .i64 t531)) (fun _ hk => hk.2) (.int .i64 t532)) (fun _ h_ => h_.1))))) (below_size (by repeat (first | (with_reducible first | exact HB.out | apply below_alloc | apply pw_below_drewN | apply below_drew1 | refine below_set ?_ GE493.out | refine below_set ?_ GE494.out | refine below_set ?_ GE535.out) | exact HB.out | exact Below.refl _ _)))); have n4_ := Aside0.mk (blk_below (g := gb493) (o := .cells #[.slice A0_0 l0_0.length c0_0, .slice A0_1 l0_1.length c0_1, .int .i64 a0_2, .int .i64 a0_3, .int .i64 a0_4, .int .i64 a0_5] 24 (0, 0)) (by refine blk_far ?_ NB493_535.out _; refine blk_far ?_ NB493_535.out _; refine blk_far ?_ NB493_535.out _; refine blk_far ?_ NB493_535.out _; refine blk_far ?_ NB493_535.out _; refine blk_far ?_ NB493_535.out _; exact BK493.out) hb); have n5_ := Aside0.mk (blk_below (g := gb494) (o := .cells #[.slice A1_0 l1_0.length c1_0, .slice A1_1 l1_1.length c1_1, .int .i64 a1_2, .int .i64 a1_3, .int .i64 a1_4, .int .i64 a1_5] 24 (0, 0)) (by refine blk_far ?_ NB494_535.out _; refine blk_far ?_ NB494_535.out _; refine blk_far ?_ NB494_535.out _; refine blk_far ?_ NB494_535.out _; refine blk_far ?_ NB494_535.out _; refine blk_far ?_ NB494_535.out _; exact BK494.out) hb); have n6_ := Aside0.mk (blk_below (g := gb535) (o := .cells #[.slice Ao140 t523.length co140, .slice Ao144 t526.length co144, .int .i64 t529, .int .i64 t530, .int .i64 t531, .int .i64 t532] 24 (0, 0)) (by refine blk_put (cs := #[.slice Ao140 t523.length co140, .slice Ao144 t526.length co144, .int .i64 t529, .int .i64 t530, .int .i64 t531, .int .i64 0]) ?_ 5 _ rfl; refine blk_put (cs := #[.slice Ao140 t523.length co140, .slice Ao144 t526.length co144, .int .i64 t529, .int .i64 t530, .int .i64 0, .int .i64 0]) ?_ 4 _ rfl; refine blk_put (cs := #[.slice Ao140 t523.length co140, .slice Ao144 t526.length co144, .int .i64 t529, .int .i64 0, .int .i64 0, .int .i64 0]) ?_ 3 _ rfl; refine blk_put (cs := #[.slice Ao140 t523.length co140, .slice Ao144 t526.length co144, .int .i64 0, .int .i64 0, .int .i64 0, .int .i64 0]) ?_ 2 _ rfl; refine blk_put (cs := #[.slice Ao140 t523.length co140, .slice none 0 0, .int .i64 0, .int .i64 0, .int .i64 0, .int .i64 0]) ?_ 1 _ rfl; refine blk_put (cs := #[.slice none 0 0, .slice none 0 0, .int .i64 0, .int .i64 0, .int .i64 0, .int .i64 0]) ?_ 0 _ rfl; exact BK535.out) hb); have n7_ := Aside0.mk (below_step (by repeat (first | (with_reducible first | exact HB.out | apply below_alloc | apply pw_below_drewN | apply below_drew1 | refine below_set ?_ GE493.out | refine below_set ?_ GE494.out | refine below_set ?_ GE535.out) | exact HB.out | exact Below.refl _ _)) hb); clear HO_5; clear HO525; clear HO528; clear BK493; clear BK494; clear BK535; clear HB; have HO_5 := n0_; have HO525 := n1_; have HO528 := n2_; have HO538 := n3_; have BK493 := n4_; have BK494 := n5_; have BK535 := n6_; have HB := n7_; clear n0_ n1_ n2_ n3_ n4_ n5_ n6_ n7_; (try clear hb); (try clear hb2); (try clear hk); (try clear hi); (try clear ho0)))
           have n0_ := Aside0.mk (Kd.R_drew HO_5.out)
           have n1_ := Aside0.mk (Kd.R_drew HO525.out)
           have n2_ := Aside0.mk (Kd.R_drew HO528.out)
           have n3_ := Aside0.mk (Kd.R_drew HO538.out)
           have n4_ := Aside0.mk (blk_drew BK493.out)
           have n5_ := Aside0.mk (blk_drew BK494.out)
           have n6_ := Aside0.mk (blk_drew BK535.out)
           have n7_ := Aside0.mk (below_drew1 HB.out)
           clear HO_5
           clear HO525
           clear HO528
           clear HO538
           clear BK493
           clear BK494
           clear BK535
           clear HB
           have HO_5 := n0_
           have HO525 := n1_
           have HO528 := n2_
           have HO538 := n3_
           have BK493 := n4_
           have BK494 := n5_
           have BK535 := n6_
           have HB := n7_
           clear n0_ n1_ n2_ n3_ n4_ n5_ n6_ n7_
           refine start_ (n := 25) (S := fun w' => w'.cell? ⟨gb493, 0, none⟩ = some (.slice A0_0 l0_0.length c0_0) ∧ w'.cell? ⟨gb493, 1, none⟩ = some (.slice A0_1 l0_1.length c0_1) ∧ w'.cell? ⟨gb493, 2, none⟩ = some (.int .i64 a0_2) ∧ w'.cell? ⟨gb493, 3, none⟩ = some (.int .i64 a0_3) ∧ w'.cell? ⟨gb493, 4, none⟩ = some (.int .i64 a0_4) ∧ w'.cell? ⟨gb493, 5, none⟩ = some (.int .i64 a0_5) ∧ w'.cell? ⟨gb535, 0, none⟩ = some (.slice Ao140 t523.length co140) ∧ w'.cell? ⟨gb535, 1, none⟩ = some (.slice Ao144 t526.length co144) ∧ w'.cell? ⟨gb535, 2, none⟩ = some (.int .i64 t529) ∧ w'.cell? ⟨gb535, 3, none⟩ = some (.int .i64 t530) ∧ w'.cell? ⟨gb535, 4, none⟩ = some (.int .i64 t531) ∧ w'.cell? ⟨gb535, 5, none⟩ = some (.int .i64 t532)) (ds := []) zb6_0 (by kernel_rfl) rfl rfl ⟨(blk_cell BK493.out 0).trans rfl, (blk_cell BK493.out 1).trans rfl, (blk_cell BK493.out 2).trans rfl, (blk_cell BK493.out 3).trans rfl, (blk_cell BK493.out 4).trans rfl, (blk_cell BK493.out 5).trans rfl, (blk_cell BK535.out 0).trans rfl, (blk_cell BK535.out 1).trans rfl, (blk_cell BK535.out 2).trans rfl, (blk_cell BK535.out 3).trans rfl, (blk_cell BK535.out 4).trans rfl, (blk_cell BK535.out 5).trans rfl⟩ (fun hHeld => ?_); refine with_tabW terrierlaw13_RecordBack.tab13 terrierlaw13_RecordBack.bits13 (fun HT_ HW_ => ?_)
           generalize w147.drew = w148 at HO_5 HO525 HO528 HO538 BK493 BK494 BK535 HB hHeld ⊢
           refine pure_ (i := 0) (N := some 89) (v := ?_) (a' := ?_) zb6_1 rfl rfl (any_of HT_.out (by kernel_rfl)) (fun _ _ _ h => h) (Or.inl ⟨by rfl, ?_⟩) ?_ ?_
           rotate_left
           ·
            intro w'
            go_simp
            with_reducible rfl
           rotate_left
           ·
            simp only [Act.put, List.setIfInBounds_toArray, List.set_cons_zero, List.set_cons_succ, i64_w, i32_w]
            rfl
           refine pure_ (i := 1) (N := some 90) (v := ?_) (a' := ?_) zb6_2 rfl rfl (any_of HT_.out (by kernel_rfl)) (fun _ _ _ h => h) (Or.inl ⟨by rfl, ?_⟩) ?_ ?_
           rotate_left
           ·
            intro w'
            go_simp
            with_reducible rfl
           rotate_left
           ·
            simp only [Act.put, List.setIfInBounds_toArray, List.set_cons_zero, List.set_cons_succ, i64_w, i32_w]
            rfl
           refine pure_ (i := 2) (N := some 91) (v := ?_) (a' := ?_) zb6_3 rfl rfl (any_of HT_.out (by kernel_rfl)) (fun _ _ _ h => h) (Or.inl ⟨by rfl, ?_⟩) ?_ ?_
           rotate_left
           ·
            intro w'
            go_simp
            with_reducible rfl
           rotate_left
           ·
            simp only [Act.put, List.setIfInBounds_toArray, List.set_cons_zero, List.set_cons_succ, i64_w, i32_w]
            rfl
           refine pure_ (i := 3) (N := some 92) (v := ?_) (a' := ?_) zb6_4 rfl rfl (any_of HT_.out (by kernel_rfl)) (fun _ _ _ h => h) (Or.inl ⟨by rfl, ?_⟩) ?_ ?_
           rotate_left
           ·
            intro w'
            go_simp
            with_reducible rfl
           rotate_left
           ·
            simp only [Act.put, List.setIfInBounds_toArray, List.set_cons_zero, List.set_cons_succ, i64_w, i32_w]
            rfl
           refine pure_ (i := 4) (N := some 93) (v := ?_) (a' := ?_) zb6_5 rfl rfl (any_of HT_.out (by kernel_rfl)) (fun _ _ _ h => h) (Or.inl ⟨by rfl, ?_⟩) ?_ ?_
           rotate_left
           ·
            intro w'
            go_simp
            with_reducible rfl
           rotate_left
           ·
            simp only [Act.put, List.setIfInBounds_toArray, List.set_cons_zero, List.set_cons_succ, i64_w, i32_w]
            rfl
           refine pure_ (i := 5) (N := some 94) (v := ?_) (a' := ?_) zb6_6 rfl rfl (any_of HT_.out (by kernel_rfl)) (fun _ _ _ h => h) (Or.inl ⟨by rfl, ?_⟩) ?_ ?_
           rotate_left
           ·
            intro w'
            go_simp
            with_reducible rfl
           rotate_left
           ·
            simp only [Act.put, List.setIfInBounds_toArray, List.set_cons_zero, List.set_cons_succ, i64_w, i32_w]
            rfl
           refine pure_ (i := 6) (N := some 95) (v := ?_) (a' := ?_) zb6_7 rfl rfl (any_of HT_.out (by kernel_rfl)) (fun _ _ _ h => h) (Or.inl ⟨by rfl, ?_⟩) ?_ ?_
           rotate_left
           ·
            intro w'
            go_simp
            with_reducible rfl
           rotate_left
           ·
            simp only [Act.put, List.setIfInBounds_toArray, List.set_cons_zero, List.set_cons_succ, i64_w, i32_w]
            rfl
           refine take_ (i := 7) (N := some 96) (v := ?_) (a' := ?_) zb6_8 rfl rfl (take_ofW HT_.out HW_.out (by kernel_rfl)) (fun _ _ _ h => h) (Or.inl ⟨by rfl, ?_⟩) hHeld ?_ ?_
           rotate_left
           ·
            rintro w' ⟨s0, s1, s2, s3, s4, s5, s6, s7, s8, s9, s10, s11⟩
            go_simp
            with_reducible rfl
           rotate_left
           ·
            simp only [Act.put, List.setIfInBounds_toArray, List.set_cons_zero, List.set_cons_succ, i64_w, i32_w]
            rfl
           refine take_ (i := 8) (N := some 97) (v := ?_) (a' := ?_) zb6_9 rfl rfl (take_ofW HT_.out HW_.out (by kernel_rfl)) (fun _ _ _ h => h) (Or.inl ⟨by rfl, ?_⟩) hHeld ?_ ?_
           rotate_left
           ·
            rintro w' ⟨s0, s1, s2, s3, s4, s5, s6, s7, s8, s9, s10, s11⟩
            go_simp
            with_reducible rfl
           rotate_left
           ·
            simp only [Act.put, List.setIfInBounds_toArray, List.set_cons_zero, List.set_cons_succ, i64_w, i32_w]
            rfl
           refine one_ (i := 9) (N := some 98) zb6_10 rfl rfl (one_of HT_.out (by kernel_rfl)) (by decide) (fun K hK => ?_)
           refine goes_ Try.func19 (by kernel_rfl) rfl #[.agg #[.slice A0_0 l0_0.length c0_0, .slice A0_1 l0_1.length c0_1, .int .i64 a0_2, .int .i64 a0_3, .int .i64 a0_4, .int .i64 a0_5], .agg #[.slice Ao140 t523.length co140, .slice Ao144 t526.length co144, .int .i64 t529, .int .i64 t530, .int .i64 t531, .int .i64 t532]] (by rfl) rfl rfl (by (try simp only [List.map_toArray, List.map_cons, List.map_nil]); first | done | rfl | (simp only [List.length_drop, List.length_take]; rfl)) ?_
           with_reducible refine (record_Same.calls _ _ l0_0 _ _ l0_1 a0_2 a0_3 a0_4 a0_5 _ _ t523 _ _ t526 t529 t530 t531 t532 true _ ?side1 ?side2 ?side3 ?side4 ?side5 ?side6 ?side7 ?side8 A117.out).mono ?_
           (case side1 => repeat (first | exact (Kd.C_below HR0_0.out HB.out) | exact HR0_0.out | (with_reducible refine Kd.C_alloc ?_ _) | (with_reducible refine Kd.C_drewN ?_ _) | (with_reducible refine Kd.C_drew ?_)))
           (case side2 => exact HC0_0.out)
           (case side3 => repeat (first | exact (Kd.C_below HR0_1.out HB.out) | exact HR0_1.out | (with_reducible refine Kd.C_alloc ?_ _) | (with_reducible refine Kd.C_drewN ?_ _) | (with_reducible refine Kd.C_drew ?_)))
           (case side4 => exact HC0_1.out)
           (case side5 => repeat (first | exact (Kd.R_reads' HO525.out).2.2 | (with_reducible refine Kd.C_alloc ?_ _) | (with_reducible refine Kd.C_drewN ?_ _) | (with_reducible refine Kd.C_drew ?_)))
           (case side6 => exact (Kd.R_reads' HO525.out).2.1)
           (case side7 => repeat (first | exact (Kd.R_reads' HO528.out).2.2 | (with_reducible refine Kd.C_alloc ?_ _) | (with_reducible refine Kd.C_drewN ?_ _) | (with_reducible refine Kd.C_drew ?_)))
           (case side8 => exact (Kd.R_reads' HO528.out).2.1)
           rintro e w149 ⟨rfl, hb⟩
           refine ⟨_, rfl, ?_⟩
           have n0_ := Aside0.mk (Kd.R_below (by (with_reducible repeat (first | apply Kd.R_alloc | apply Kd.R_drewN | apply Kd.R_drew)); exact HO_5.out) hb)
           have n1_ := Aside0.mk (Kd.R_below (by (with_reducible repeat (first | apply Kd.R_alloc | apply Kd.R_drewN | apply Kd.R_drew)); exact HO525.out) hb)
           have n2_ := Aside0.mk (Kd.R_below (by (with_reducible repeat (first | apply Kd.R_alloc | apply Kd.R_drewN | apply Kd.R_drew)); exact HO528.out) hb)
           have n3_ := Aside0.mk (Kd.R_below (by (with_reducible repeat (first | apply Kd.R_alloc | apply Kd.R_drewN | apply Kd.R_drew)); exact HO538.out) hb)
           have n4_ := Aside0.mk (blk_below BK493.out hb)
           have n5_ := Aside0.mk (blk_below BK494.out hb)
           have n6_ := Aside0.mk (blk_below BK535.out hb)
           have n7_ := Aside0.mk (below_step (by repeat (first | (with_reducible first | exact HB.out | apply below_alloc | apply pw_below_drewN | apply below_drew1 | refine below_set ?_ GE493.out | refine below_set ?_ GE494.out | refine below_set ?_ GE535.out) | exact HB.out | exact Below.refl _ _)) hb)
           clear HO_5
           clear HO525
           clear HO528
           clear HO538
           clear BK493
           clear BK494
           clear BK535
           clear HB
           have HO_5 := n0_
           have HO525 := n1_
           have HO528 := n2_
           have HO538 := n3_
           have BK493 := n4_
           have BK494 := n5_
           have BK535 := n6_
           have HB := n7_
           clear n0_ n1_ n2_ n3_ n4_ n5_ n6_ n7_
           (try clear hb)
           (try clear hb2)
           (try clear hk)
           (try clear hi)
           refine hK.out _ _ ⟨(blk_cell BK493.out 0).trans rfl, (blk_cell BK493.out 1).trans rfl, (blk_cell BK493.out 2).trans rfl, (blk_cell BK493.out 3).trans rfl, (blk_cell BK493.out 4).trans rfl, (blk_cell BK493.out 5).trans rfl, (blk_cell BK535.out 0).trans rfl, (blk_cell BK535.out 1).trans rfl, (blk_cell BK535.out 2).trans rfl, (blk_cell BK535.out 3).trans rfl, (blk_cell BK535.out 4).trans rfl, (blk_cell BK535.out 5).trans rfl⟩ (fun hHeld => ?_)
           clear hK K
           refine norm_ (a' := ?_) ?_ ?_
           rotate_left
           ·
            show Act.put _ (some 98) _ = _
            simp only [Act.put, List.setIfInBounds_toArray, List.set_cons_zero, List.set_cons_succ, i64_w, i32_w]
            rfl
           refine pure_ (i := 10) (N := some 99) (v := ?_) (a' := ?_) zb6_11 rfl rfl (any_of HT_.out (by kernel_rfl)) (fun _ _ _ h => h) (Or.inl ⟨by rfl, ?_⟩) ?_ ?_
           rotate_left
           ·
            intro w'
            go_simp
            with_reducible rfl
           rotate_left
           ·
            simp only [Act.put, List.setIfInBounds_toArray, List.set_cons_zero, List.set_cons_succ, i64_w, i32_w]
            rfl
           refine pure_ (i := 11) (N := some 100) (v := ?_) (a' := ?_) zb6_12 rfl rfl (any_of HT_.out (by kernel_rfl)) (fun _ _ _ h => h) (Or.inl ⟨by rfl, ?_⟩) ?_ ?_
           rotate_left
           ·
            intro w'
            go_simp
            with_reducible rfl
           rotate_left
           ·
            simp only [Act.put, List.setIfInBounds_toArray, List.set_cons_zero, List.set_cons_succ, i64_w, i32_w]
            rfl
           refine pure_ (i := 12) (N := some 101) (v := ?_) (a' := ?_) zb6_13 rfl rfl (any_of HT_.out (by kernel_rfl)) (fun _ _ _ h => h) (Or.inl ⟨by rfl, ?_⟩) ?_ ?_
           rotate_left
           ·
            intro w'
            go_simp
            with_reducible rfl
           rotate_left
           ·
            simp only [Act.put, List.setIfInBounds_toArray, List.set_cons_zero, List.set_cons_succ, i64_w, i32_w]
            rfl
           refine pure_ (i := 13) (N := some 102) (v := ?_) (a' := ?_) zb6_14 rfl rfl (any_of HT_.out (by kernel_rfl)) (fun _ _ _ h => h) (Or.inl ⟨by rfl, ?_⟩) ?_ ?_
           rotate_left
           ·
            intro w'
            go_simp
            with_reducible rfl
           rotate_left
           ·
            simp only [Act.put, List.setIfInBounds_toArray, List.set_cons_zero, List.set_cons_succ, i64_w, i32_w]
            rfl
           refine pure_ (i := 14) (N := some 103) (v := ?_) (a' := ?_) zb6_15 rfl rfl (any_of HT_.out (by kernel_rfl)) (fun _ _ _ h => h) (Or.inl ⟨by rfl, ?_⟩) ?_ ?_
           rotate_left
           ·
            intro w'
            go_simp
            with_reducible rfl
           rotate_left
           ·
            simp only [Act.put, List.setIfInBounds_toArray, List.set_cons_zero, List.set_cons_succ, i64_w, i32_w]
            rfl
           refine pure_ (i := 15) (N := some 104) (v := undef) (a' := ?_) zb6_16 rfl rfl (any_of HT_.out (by kernel_rfl)) (fun _ _ _ h => h) (Or.inr ⟨by rfl, rfl⟩) ?_ ?_
           rotate_left
           ·
            simp only [Act.put, List.setIfInBounds_toArray, List.set_cons_zero, List.set_cons_succ, i64_w, i32_w]
            rfl
           refine pure_ (i := 16) (N := some 105) (v := undef) (a' := ?_) zb6_17 rfl rfl (any_of HT_.out (by kernel_rfl)) (fun _ _ _ h => h) (Or.inr ⟨by rfl, rfl⟩) ?_ ?_
           rotate_left
           ·
            simp only [Act.put, List.setIfInBounds_toArray, List.set_cons_zero, List.set_cons_succ, i64_w, i32_w]
            rfl
           refine pure_ (i := 17) (N := some 106) (v := undef) (a' := ?_) zb6_24 rfl rfl (any_of HT_.out (by kernel_rfl)) (fun _ _ _ h => h) (Or.inr ⟨by rfl, rfl⟩) ?_ ?_
           rotate_left
           ·
            simp only [Act.put, List.setIfInBounds_toArray, List.set_cons_zero, List.set_cons_succ, i64_w, i32_w]
            rfl
           refine pure_ (i := 18) (N := some 107) (v := undef) (a' := ?_) zb6_25 rfl rfl (any_of HT_.out (by kernel_rfl)) (fun _ _ _ h => h) (Or.inr ⟨by rfl, rfl⟩) ?_ ?_
           rotate_left
           ·
            simp only [Act.put, List.setIfInBounds_toArray, List.set_cons_zero, List.set_cons_succ, i64_w, i32_w]
            rfl
           refine pure_ (i := 19) (N := some 108) (v := undef) (a' := ?_) zb6_18 rfl rfl (any_of HT_.out (by kernel_rfl)) (fun _ _ _ h => h) (Or.inr ⟨by rfl, rfl⟩) ?_ ?_
           rotate_left
           ·
            simp only [Act.put, List.setIfInBounds_toArray, List.set_cons_zero, List.set_cons_succ, i64_w, i32_w]
            rfl
           refine pure_ (i := 20) (N := some 109) (v := undef) (a' := ?_) zb6_19 rfl rfl (any_of HT_.out (by kernel_rfl)) (fun _ _ _ h => h) (Or.inr ⟨by rfl, rfl⟩) ?_ ?_
           rotate_left
           ·
            simp only [Act.put, List.setIfInBounds_toArray, List.set_cons_zero, List.set_cons_succ, i64_w, i32_w]
            rfl
           refine pure_ (i := 21) (N := some 110) (v := undef) (a' := ?_) zb6_20 rfl rfl (any_of HT_.out (by kernel_rfl)) (fun _ _ _ h => h) (Or.inr ⟨by rfl, rfl⟩) ?_ ?_
           rotate_left
           ·
            simp only [Act.put, List.setIfInBounds_toArray, List.set_cons_zero, List.set_cons_succ, i64_w, i32_w]
            rfl
           refine pure_ (i := 22) (N := some 111) (v := ?_) (a' := ?_) zb6_21 rfl rfl (any_of HT_.out (by kernel_rfl)) (fun _ _ _ h => h) (Or.inl ⟨by rfl, ?_⟩) ?_ ?_
           rotate_left
           ·
            intro w'
            go_simp
            with_reducible rfl
           rotate_left
           ·
            simp only [Act.put, List.setIfInBounds_toArray, List.set_cons_zero, List.set_cons_succ, i64_w, i32_w]
            rfl
           refine pure_ (i := 23) (N := some 112) (v := ?_) (a' := ?_) zb6_22 rfl rfl (any_of HT_.out (by kernel_rfl)) (fun _ _ _ h => h) (Or.inl ⟨by rfl, ?_⟩) ?_ ?_
           rotate_left
           ·
            intro w'
            go_simp
            with_reducible rfl
           rotate_left
           ·
            simp only [Act.put, List.setIfInBounds_toArray, List.set_cons_zero, List.set_cons_succ, i64_w, i32_w]
            rfl
           refine pure_ (i := 24) (N := some 4) (v := ?_) (a' := ?_) zb6_23 rfl rfl (any_of HT_.out (by kernel_rfl)) (fun _ _ _ h => h) (Or.inl ⟨by rfl, ?_⟩) ?_ ?_
           rotate_left
           ·
            intro w'
            go_simp
            with_reducible rfl
           rotate_left
           ·
            simp only [Act.put, List.setIfInBounds_toArray, List.set_cons_zero, List.set_cons_succ, i64_w, i32_w]
            rfl
           refine done_ (done_of HT_.out (by kernel_rfl)) ?_
           try go_wp2
           go_ret
           exact ⟨by first | rfl | (simp [errW_none, errW_some] <;> rfl) | (simp [*, errW_none, errW_some] <;> rfl), by repeat (first | (with_reducible first | exact HB.out | apply below_alloc | apply pw_below_drewN | apply below_drew1 | refine below_set ?_ GE493.out | refine below_set ?_ GE494.out | refine below_set ?_ GE535.out) | exact HB.out | exact Below.refl _ _)⟩
         ·
          replace c118 := Bool.eq_false_iff.mpr c118
          subst c118
          have H1 : (some false) = some r := by rw [if_neg (show ¬ (false = true) by decide)] at H; exact H
          clear H
          have H := H1
          clear H1
          obtain rfl := Option.some.inj H
          obtain ⟨Ao150, co150, eo150⟩ := Kd.R_slice HO_5.out
          subst eo150
          try go_wp2_with (first | ((with_reducible refine gate_callee (f := 21) rfl ?_); refine goesL_ (some 80) rfl rfl Try.func21 (by kernel_rfl) rfl #[.slice Ao150 t499.length co150] rfl (by (try simp only [List.map_toArray, List.map_cons, List.map_nil]); first | done | rfl | (simp only [List.length_drop, List.length_take]; rfl)) ?_; (with_reducible refine (record_Decode.calls kj26 _ _ t499 t523 t526 t529 t530 t531 t532 false t534 _ ?side1 ?side2 A101.out).mono ?_); (case side1 => repeat (first | exact (Kd.R_reads' HO_5.out).2.2 | (with_reducible refine Kd.C_alloc ?_ _) | (with_reducible refine Kd.C_drewN ?_ _) | (with_reducible refine Kd.C_drew ?_))); (case side2 => exact (Kd.R_reads' HO_5.out).2.1); rintro e w151 ⟨v524, v527, rfl, ho0, ho1, hb⟩; refine ⟨_, rfl, ?_⟩; have n0_ := Aside0.mk (Kd.R_mono (Kd.R_told (Kd.R_told (Kd.R_old (by (with_reducible repeat (first | apply Kd.R_alloc | apply Kd.R_drewN | apply Kd.R_drew)); exact HO_5.out) hb) (Kd.R_base ho0)) (Kd.R_base ho1)) (fun _ h_ => h_.1)); have n1_ := Aside0.mk (Kd.R_lower (Kd.R_new' ho0 (Kd.R_lt (by (with_reducible repeat (first | apply Kd.R_alloc | apply Kd.R_drewN | apply Kd.R_drew)); exact HO_5.out))) (below_size (by repeat (first | (with_reducible first | exact HB.out | apply below_alloc | apply pw_below_drewN | apply below_drew1 | refine below_set ?_ GE493.out | refine below_set ?_ GE494.out) | exact HB.out | exact Below.refl _ _)))); have n2_ := Aside0.mk (Kd.R_lower (Kd.R_new' ho1 (Kd.R_lt (by (with_reducible repeat (first | apply Kd.R_alloc | apply Kd.R_drewN | apply Kd.R_drew)); exact HO_5.out))) (below_size (by repeat (first | (with_reducible first | exact HB.out | apply below_alloc | apply pw_below_drewN | apply below_drew1 | refine below_set ?_ GE493.out | refine below_set ?_ GE494.out) | exact HB.out | exact Below.refl _ _)))); have n3_ := Aside0.mk (blk_below BK493.out hb); have n4_ := Aside0.mk (blk_below BK494.out hb); have n5_ := Aside0.mk (below_step (by repeat (first | (with_reducible first | exact HB.out | apply below_alloc | apply pw_below_drewN | apply below_drew1 | refine below_set ?_ GE493.out | refine below_set ?_ GE494.out) | exact HB.out | exact Below.refl _ _)) hb); clear HO_5; clear BK493; clear BK494; clear HB; have HO_5 := n0_; have HO525 := n1_; have HO528 := n2_; have BK493 := n3_; have BK494 := n4_; have HB := n5_; clear n0_ n1_ n2_ n3_ n4_ n5_; (try clear hb); (try clear hb2); (try clear hk); (try clear hi); (try clear ho0); (try clear ho1)) | ((with_reducible refine gate_dst (N := 12) rfl ?_); refine box_event ?hg (N := 12) ?hd (cs := #[.slice none 0 0, .slice none 0 0, .int .i64 0, .int .i64 0, .int .i64 0, .int .i64 0]) (t := 24) ?hr ?_; (case hd => rfl); (case hg => rfl); (case hr => first | (go_simp; done) | (go_simp; rfl)); intro gb535 hg w152 hbox hb; have n0_ := Aside0.mk (Kd.R_below (by (with_reducible repeat (first | apply Kd.R_alloc | apply Kd.R_drewN | apply Kd.R_drew)); exact HO_5.out) hb); have n1_ := Aside0.mk (Kd.R_below (by (with_reducible repeat (first | apply Kd.R_alloc | apply Kd.R_drewN | apply Kd.R_drew)); exact HO525.out) hb); have n2_ := Aside0.mk (Kd.R_below (by (with_reducible repeat (first | apply Kd.R_alloc | apply Kd.R_drewN | apply Kd.R_drew)); exact HO528.out) hb); have n3_ := Aside0.mk (blk_below BK493.out hb); have n4_ := Aside0.mk (blk_below BK494.out hb); have n5_ := Aside0.mk (below_step (by repeat (first | (with_reducible first | exact HB.out | apply below_alloc | apply pw_below_drewN | apply below_drew1 | refine below_set ?_ GE493.out | refine below_set ?_ GE494.out) | exact HB.out | exact Below.refl _ _)) hb); have n6_ := Aside0.mk (hbox); have n7_ := Aside0.mk ((by rw [hg]; exact (below_size (by repeat (first | (with_reducible first | exact HB.out | apply below_alloc | apply pw_below_drewN | apply below_drew1 | refine below_set ?_ GE493.out | refine below_set ?_ GE494.out) | exact HB.out | exact Below.refl _ _))) : w.heap.size ≤ gb535)); have n8_ := Aside0.mk ((by rw [hg]; exact (below_size (by repeat (first | (with_reducible first | exact HB.out | apply below_alloc | apply pw_below_drewN | apply below_drew1 | refine below_set ?_ GE493.out | refine below_set ?_ GE494.out) | exact HB.out | exact Below.refl _ _))) : w.heap.size ≤ gb535)); have n9_ := Aside0.mk ((by rw [hg]; exact Nat.ne_of_lt (blk_lt BK493.out) : gb493 ≠ gb535)); have n10_ := Aside0.mk ((by rw [hg]; exact Nat.ne_of_gt (blk_lt BK493.out) : gb535 ≠ gb493)); have n11_ := Aside0.mk ((by rw [hg]; exact Nat.ne_of_lt (blk_lt BK494.out) : gb494 ≠ gb535)); have n12_ := Aside0.mk ((by rw [hg]; exact Nat.ne_of_gt (blk_lt BK494.out) : gb535 ≠ gb494)); clear HO_5; clear HO525; clear HO528; clear BK493; clear BK494; clear HB; have HO_5 := n0_; have HO525 := n1_; have HO528 := n2_; have BK493 := n3_; have BK494 := n4_; have HB := n5_; have BK535 := n6_; have GW535 := n7_; have GE535 := n8_; have NB493_535 := n9_; have NB535_493 := n10_; have NB494_535 := n11_; have NB535_494 := n12_; clear n0_ n1_ n2_ n3_ n4_ n5_ n6_ n7_ n8_ n9_ n10_ n11_ n12_; clear hb hbox hg; obtain ⟨Ao153, co153, eo153⟩ := Kd.R_slice HO525.out; subst eo153; have hnb154 := NB535_493.out; have hnc154 := NB493_535.out; have hnb155 := NB535_494.out; have hnc155 := NB494_535.out; have hcz156_0 : w152.cell? ⟨gb535, 0, none⟩ = some (.slice none 0 0) := (blk_cell BK535.out 0).trans rfl; have hcz156_1 : w152.cell? ⟨gb535, 1, none⟩ = some (.slice none 0 0) := (blk_cell BK535.out 1).trans rfl; have hcz156_2 : w152.cell? ⟨gb535, 2, none⟩ = some (.int .i64 0) := (blk_cell BK535.out 2).trans rfl; have hcz156_3 : w152.cell? ⟨gb535, 3, none⟩ = some (.int .i64 0) := (blk_cell BK535.out 3).trans rfl; have hcz156_4 : w152.cell? ⟨gb535, 4, none⟩ = some (.int .i64 0) := (blk_cell BK535.out 4).trans rfl; have hcz156_5 : w152.cell? ⟨gb535, 5, none⟩ = some (.int .i64 0) := (blk_cell BK535.out 5).trans rfl; have hfz156_0 := blk_frozen BK535.out 0; have hfz156_1 := blk_frozen BK535.out 1; have hfz156_2 := blk_frozen BK535.out 2; have hfz156_3 := blk_frozen BK535.out 3; have hfz156_4 := blk_frozen BK535.out 4; have hfz156_5 := blk_frozen BK535.out 5; obtain ⟨Ao157, co157, eo157⟩ := Kd.R_slice HO528.out; subst eo157; have hnb158 := NB494_493.out; have hnc158 := NB493_494.out; have hcz159_0 : w152.cell? ⟨gb494, 0, none⟩ = some (.slice A1_0 l1_0.length c1_0) := (blk_cell BK494.out 0).trans rfl; have hcz159_1 : w152.cell? ⟨gb494, 1, none⟩ = some (.slice A1_1 l1_1.length c1_1) := (blk_cell BK494.out 1).trans rfl; have hcz159_2 : w152.cell? ⟨gb494, 2, none⟩ = some (.int .i64 a1_2) := (blk_cell BK494.out 2).trans rfl; have hcz159_3 : w152.cell? ⟨gb494, 3, none⟩ = some (.int .i64 a1_3) := (blk_cell BK494.out 3).trans rfl; have hcz159_4 : w152.cell? ⟨gb494, 4, none⟩ = some (.int .i64 a1_4) := (blk_cell BK494.out 4).trans rfl; have hcz159_5 : w152.cell? ⟨gb494, 5, none⟩ = some (.int .i64 a1_5) := (blk_cell BK494.out 5).trans rfl; have hfz159_0 := blk_frozen BK494.out 0; have hfz159_1 := blk_frozen BK494.out 1; have hfz159_2 := blk_frozen BK494.out 2; have hfz159_3 := blk_frozen BK494.out 3; have hfz159_4 := blk_frozen BK494.out 4; have hfz159_5 := blk_frozen BK494.out 5) | ((with_reducible refine gate_callee (f := 10) rfl ?_); refine goesL_ (some 86) rfl rfl Try.func10 (by kernel_rfl) rfl #[.agg #[.slice A1_0 l1_0.length c1_0, .slice A1_1 l1_1.length c1_1, .int .i64 a1_2, .int .i64 a1_3, .int .i64 a1_4, .int .i64 a1_5]] rfl (by (try simp only [List.map_toArray, List.map_cons, List.map_nil]); first | done | rfl | (simp only [List.length_drop, List.length_take]; rfl)) ?_; (with_reducible refine (record_Encode.calls kj26 _ _ l1_0 _ _ l1_1 a1_2 a1_3 a1_4 a1_5 t536 t539 _ ?side1 ?side2 ?side3 ?side4 A102.out).mono ?_); (case side1 => exact Kd.C_below HR1_0.out (by repeat (first | (with_reducible first | exact HB.out | apply below_alloc | apply pw_below_drewN | apply below_drew1 | refine below_set ?_ GE493.out | refine below_set ?_ GE494.out | refine below_set ?_ GE535.out) | exact HB.out | exact Below.refl _ _))); (case side2 => exact HC1_0.out); (case side3 => exact Kd.C_below HR1_1.out (by repeat (first | (with_reducible first | exact HB.out | apply below_alloc | apply pw_below_drewN | apply below_drew1 | refine below_set ?_ GE493.out | refine below_set ?_ GE494.out | refine below_set ?_ GE535.out) | exact HB.out | exact Below.refl _ _))); (case side4 => exact HC1_1.out); rintro e w160 ⟨v537, rfl, ho0, hb⟩; refine ⟨_, rfl, ?_⟩; have n0_ := Aside0.mk (Kd.R_elder' (by (with_reducible repeat (first | apply Kd.R_alloc | apply Kd.R_drewN | apply Kd.R_drew)); exact (Kd.R_mono (Kd.R_far (p := ⟨gb535, 5, none⟩) (Kd.R_far (p := ⟨gb535, 4, none⟩) (Kd.R_far (p := ⟨gb535, 3, none⟩) (Kd.R_far (p := ⟨gb535, 2, none⟩) (Kd.R_far (p := ⟨gb535, 1, none⟩) (Kd.R_far (p := ⟨gb535, 0, none⟩) (Kd.R_types HO_5.out BK535.out (by decide)) (fun _ hk => hk.2) (.slice Ao153 t523.length co153)) (fun _ hk => hk.2) (.slice Ao157 t526.length co157)) (fun _ hk => hk.2) (.int .i64 t529)) (fun _ hk => hk.2) (.int .i64 t530)) (fun _ hk => hk.2) (.int .i64 t531)) (fun _ hk => hk.2) (.int .i64 t532)) (fun _ h_ => h_.1))) (Kd.R_base ho0) hb); have n1_ := Aside0.mk (Kd.R_elder' (by (with_reducible repeat (first | apply Kd.R_alloc | apply Kd.R_drewN | apply Kd.R_drew)); exact (Kd.R_mono (Kd.R_far (p := ⟨gb535, 5, none⟩) (Kd.R_far (p := ⟨gb535, 4, none⟩) (Kd.R_far (p := ⟨gb535, 3, none⟩) (Kd.R_far (p := ⟨gb535, 2, none⟩) (Kd.R_far (p := ⟨gb535, 1, none⟩) (Kd.R_far (p := ⟨gb535, 0, none⟩) (Kd.R_types HO525.out BK535.out (by decide)) (fun _ hk => hk.2) (.slice Ao153 t523.length co153)) (fun _ hk => hk.2) (.slice Ao157 t526.length co157)) (fun _ hk => hk.2) (.int .i64 t529)) (fun _ hk => hk.2) (.int .i64 t530)) (fun _ hk => hk.2) (.int .i64 t531)) (fun _ hk => hk.2) (.int .i64 t532)) (fun _ h_ => h_.1))) (Kd.R_base ho0) hb); have n2_ := Aside0.mk (Kd.R_elder' (by (with_reducible repeat (first | apply Kd.R_alloc | apply Kd.R_drewN | apply Kd.R_drew)); exact (Kd.R_mono (Kd.R_far (p := ⟨gb535, 5, none⟩) (Kd.R_far (p := ⟨gb535, 4, none⟩) (Kd.R_far (p := ⟨gb535, 3, none⟩) (Kd.R_far (p := ⟨gb535, 2, none⟩) (Kd.R_far (p := ⟨gb535, 1, none⟩) (Kd.R_far (p := ⟨gb535, 0, none⟩) (Kd.R_types HO528.out BK535.out (by decide)) (fun _ hk => hk.2) (.slice Ao153 t523.length co153)) (fun _ hk => hk.2) (.slice Ao157 t526.length co157)) (fun _ hk => hk.2) (.int .i64 t529)) (fun _ hk => hk.2) (.int .i64 t530)) (fun _ hk => hk.2) (.int .i64 t531)) (fun _ hk => hk.2) (.int .i64 t532)) (fun _ h_ => h_.1))) (Kd.R_base ho0) hb); have n3_ := Aside0.mk (Kd.R_lower (Kd.R_new' (Kd.R_new' (Kd.R_new' ho0 (Kd.R_lt (by (with_reducible repeat (first | apply Kd.R_alloc | apply Kd.R_drewN | apply Kd.R_drew)); exact (Kd.R_mono (Kd.R_far (p := ⟨gb535, 5, none⟩) (Kd.R_far (p := ⟨gb535, 4, none⟩) (Kd.R_far (p := ⟨gb535, 3, none⟩) (Kd.R_far (p := ⟨gb535, 2, none⟩) (Kd.R_far (p := ⟨gb535, 1, none⟩) (Kd.R_far (p := ⟨gb535, 0, none⟩) (Kd.R_types HO_5.out BK535.out (by decide)) (fun _ hk => hk.2) (.slice Ao153 t523.length co153)) (fun _ hk => hk.2) (.slice Ao157 t526.length co157)) (fun _ hk => hk.2) (.int .i64 t529)) (fun _ hk => hk.2) (.int .i64 t530)) (fun _ hk => hk.2) (.int .i64 t531)) (fun _ hk => hk.2) (.int .i64 t532)) (fun _ h_ => h_.1))))) (Kd.R_lt (by (with_reducible repeat (first | apply Kd.R_alloc | apply Kd.R_drewN | apply Kd.R_drew)); exact (Kd.R_mono (Kd.R_far (p := ⟨gb535, 5, none⟩) (Kd.R_far (p := ⟨gb535, 4, none⟩) (Kd.R_far (p := ⟨gb535, 3, none⟩) (Kd.R_far (p := ⟨gb535, 2, none⟩) (Kd.R_far (p := ⟨gb535, 1, none⟩) (Kd.R_far (p := ⟨gb535, 0, none⟩) (Kd.R_types HO525.out BK535.out (by decide)) (fun _ hk => hk.2) (.slice Ao153 t523.length co153)) (fun _ hk => hk.2) (.slice Ao157 t526.length co157)) (fun _ hk => hk.2) (.int .i64 t529)) (fun _ hk => hk.2) (.int .i64 t530)) (fun _ hk => hk.2) (.int .i64 t531)) (fun _ hk => hk.2) (.int .i64 t532)) (fun _ h_ => h_.1))))) (Kd.R_lt (by (with_reducible repeat (first | apply Kd.R_alloc | apply Kd.R_drewN | apply Kd.R_drew)); exact (Kd.R_mono (Kd.R_far (p := ⟨gb535, 5, none⟩) (Kd.R_far (p := ⟨gb535, 4, none⟩) (Kd.R_far (p := ⟨gb535, 3, none⟩) (Kd.R_far (p := ⟨gb535, 2, none⟩) (Kd.R_far (p := ⟨gb535, 1, none⟩) (Kd.R_far (p := ⟨gb535, 0, none⟩) (Kd.R_types HO528.out BK535.out (by decide)) (fun _ hk => hk.2) (.slice Ao153 t523.length co153)) (fun _ hk => hk.2) (.slice Ao157 t526.length co157)) (fun _ hk => hk.2) (.int .i64 t529)) (fun _ hk => hk.2) (.int .i64 t530)) (fun _ hk => hk.2) (.int .i64 t531)) (fun _ hk => hk.2) (.int .i64 t532)) (fun _ h_ => h_.1))))) (below_size (by repeat (first | (with_reducible first | exact HB.out | apply below_alloc | apply pw_below_drewN | apply below_drew1 | refine below_set ?_ GE493.out | refine below_set ?_ GE494.out | refine below_set ?_ GE535.out) | exact HB.out | exact Below.refl _ _)))); have n4_ := Aside0.mk (blk_below (g := gb493) (o := .cells #[.slice A0_0 l0_0.length c0_0, .slice A0_1 l0_1.length c0_1, .int .i64 a0_2, .int .i64 a0_3, .int .i64 a0_4, .int .i64 a0_5] 24 (0, 0)) (by refine blk_far ?_ NB493_535.out _; refine blk_far ?_ NB493_535.out _; refine blk_far ?_ NB493_535.out _; refine blk_far ?_ NB493_535.out _; refine blk_far ?_ NB493_535.out _; refine blk_far ?_ NB493_535.out _; exact BK493.out) hb); have n5_ := Aside0.mk (blk_below (g := gb494) (o := .cells #[.slice A1_0 l1_0.length c1_0, .slice A1_1 l1_1.length c1_1, .int .i64 a1_2, .int .i64 a1_3, .int .i64 a1_4, .int .i64 a1_5] 24 (0, 0)) (by refine blk_far ?_ NB494_535.out _; refine blk_far ?_ NB494_535.out _; refine blk_far ?_ NB494_535.out _; refine blk_far ?_ NB494_535.out _; refine blk_far ?_ NB494_535.out _; refine blk_far ?_ NB494_535.out _; exact BK494.out) hb); have n6_ := Aside0.mk (blk_below (g := gb535) (o := .cells #[.slice Ao153 t523.length co153, .slice Ao157 t526.length co157, .int .i64 t529, .int .i64 t530, .int .i64 t531, .int .i64 t532] 24 (0, 0)) (by refine blk_put (cs := #[.slice Ao153 t523.length co153, .slice Ao157 t526.length co157, .int .i64 t529, .int .i64 t530, .int .i64 t531, .int .i64 0]) ?_ 5 _ rfl; refine blk_put (cs := #[.slice Ao153 t523.length co153, .slice Ao157 t526.length co157, .int .i64 t529, .int .i64 t530, .int .i64 0, .int .i64 0]) ?_ 4 _ rfl; refine blk_put (cs := #[.slice Ao153 t523.length co153, .slice Ao157 t526.length co157, .int .i64 t529, .int .i64 0, .int .i64 0, .int .i64 0]) ?_ 3 _ rfl; refine blk_put (cs := #[.slice Ao153 t523.length co153, .slice Ao157 t526.length co157, .int .i64 0, .int .i64 0, .int .i64 0, .int .i64 0]) ?_ 2 _ rfl; refine blk_put (cs := #[.slice Ao153 t523.length co153, .slice none 0 0, .int .i64 0, .int .i64 0, .int .i64 0, .int .i64 0]) ?_ 1 _ rfl; refine blk_put (cs := #[.slice none 0 0, .slice none 0 0, .int .i64 0, .int .i64 0, .int .i64 0, .int .i64 0]) ?_ 0 _ rfl; exact BK535.out) hb); have n7_ := Aside0.mk (below_step (by repeat (first | (with_reducible first | exact HB.out | apply below_alloc | apply pw_below_drewN | apply below_drew1 | refine below_set ?_ GE493.out | refine below_set ?_ GE494.out | refine below_set ?_ GE535.out) | exact HB.out | exact Below.refl _ _)) hb); clear HO_5; clear HO525; clear HO528; clear BK493; clear BK494; clear BK535; clear HB; have HO_5 := n0_; have HO525 := n1_; have HO528 := n2_; have HO538 := n3_; have BK493 := n4_; have BK494 := n5_; have BK535 := n6_; have HB := n7_; clear n0_ n1_ n2_ n3_ n4_ n5_ n6_ n7_; (try clear hb); (try clear hb2); (try clear hk); (try clear hi); (try clear ho0)))
          have n0_ := Aside0.mk (Kd.R_drew HO_5.out)
          have n1_ := Aside0.mk (Kd.R_drew HO525.out)
          have n2_ := Aside0.mk (Kd.R_drew HO528.out)
          have n3_ := Aside0.mk (Kd.R_drew HO538.out)
          have n4_ := Aside0.mk (blk_drew BK493.out)
          have n5_ := Aside0.mk (blk_drew BK494.out)
          have n6_ := Aside0.mk (blk_drew BK535.out)
          have n7_ := Aside0.mk (below_drew1 HB.out)
          clear HO_5
          clear HO525
          clear HO528
          clear HO538
          clear BK493
          clear BK494
          clear BK535
          clear HB
          have HO_5 := n0_
          have HO525 := n1_
          have HO528 := n2_
          have HO538 := n3_
          have BK493 := n4_
          have BK494 := n5_
          have BK535 := n6_
          have HB := n7_
          clear n0_ n1_ n2_ n3_ n4_ n5_ n6_ n7_
          refine start_ (n := 25) (S := fun w' => w'.cell? ⟨gb493, 0, none⟩ = some (.slice A0_0 l0_0.length c0_0) ∧ w'.cell? ⟨gb493, 1, none⟩ = some (.slice A0_1 l0_1.length c0_1) ∧ w'.cell? ⟨gb493, 2, none⟩ = some (.int .i64 a0_2) ∧ w'.cell? ⟨gb493, 3, none⟩ = some (.int .i64 a0_3) ∧ w'.cell? ⟨gb493, 4, none⟩ = some (.int .i64 a0_4) ∧ w'.cell? ⟨gb493, 5, none⟩ = some (.int .i64 a0_5) ∧ w'.cell? ⟨gb535, 0, none⟩ = some (.slice Ao153 t523.length co153) ∧ w'.cell? ⟨gb535, 1, none⟩ = some (.slice Ao157 t526.length co157) ∧ w'.cell? ⟨gb535, 2, none⟩ = some (.int .i64 t529) ∧ w'.cell? ⟨gb535, 3, none⟩ = some (.int .i64 t530) ∧ w'.cell? ⟨gb535, 4, none⟩ = some (.int .i64 t531) ∧ w'.cell? ⟨gb535, 5, none⟩ = some (.int .i64 t532)) (ds := []) zb6_0 (by kernel_rfl) rfl rfl ⟨(blk_cell BK493.out 0).trans rfl, (blk_cell BK493.out 1).trans rfl, (blk_cell BK493.out 2).trans rfl, (blk_cell BK493.out 3).trans rfl, (blk_cell BK493.out 4).trans rfl, (blk_cell BK493.out 5).trans rfl, (blk_cell BK535.out 0).trans rfl, (blk_cell BK535.out 1).trans rfl, (blk_cell BK535.out 2).trans rfl, (blk_cell BK535.out 3).trans rfl, (blk_cell BK535.out 4).trans rfl, (blk_cell BK535.out 5).trans rfl⟩ (fun hHeld => ?_); refine with_tabW terrierlaw13_RecordBack.tab13 terrierlaw13_RecordBack.bits13 (fun HT_ HW_ => ?_)
          generalize w160.drew = w161 at HO_5 HO525 HO528 HO538 BK493 BK494 BK535 HB hHeld ⊢
          refine pure_ (i := 0) (N := some 89) (v := ?_) (a' := ?_) zb6_1 rfl rfl (any_of HT_.out (by kernel_rfl)) (fun _ _ _ h => h) (Or.inl ⟨by rfl, ?_⟩) ?_ ?_
          rotate_left
          ·
           intro w'
           go_simp
           with_reducible rfl
          rotate_left
          ·
           simp only [Act.put, List.setIfInBounds_toArray, List.set_cons_zero, List.set_cons_succ, i64_w, i32_w]
           rfl
          refine pure_ (i := 1) (N := some 90) (v := ?_) (a' := ?_) zb6_2 rfl rfl (any_of HT_.out (by kernel_rfl)) (fun _ _ _ h => h) (Or.inl ⟨by rfl, ?_⟩) ?_ ?_
          rotate_left
          ·
           intro w'
           go_simp
           with_reducible rfl
          rotate_left
          ·
           simp only [Act.put, List.setIfInBounds_toArray, List.set_cons_zero, List.set_cons_succ, i64_w, i32_w]
           rfl
          refine pure_ (i := 2) (N := some 91) (v := ?_) (a' := ?_) zb6_3 rfl rfl (any_of HT_.out (by kernel_rfl)) (fun _ _ _ h => h) (Or.inl ⟨by rfl, ?_⟩) ?_ ?_
          rotate_left
          ·
           intro w'
           go_simp
           with_reducible rfl
          rotate_left
          ·
           simp only [Act.put, List.setIfInBounds_toArray, List.set_cons_zero, List.set_cons_succ, i64_w, i32_w]
           rfl
          refine pure_ (i := 3) (N := some 92) (v := ?_) (a' := ?_) zb6_4 rfl rfl (any_of HT_.out (by kernel_rfl)) (fun _ _ _ h => h) (Or.inl ⟨by rfl, ?_⟩) ?_ ?_
          rotate_left
          ·
           intro w'
           go_simp
           with_reducible rfl
          rotate_left
          ·
           simp only [Act.put, List.setIfInBounds_toArray, List.set_cons_zero, List.set_cons_succ, i64_w, i32_w]
           rfl
          refine pure_ (i := 4) (N := some 93) (v := ?_) (a' := ?_) zb6_5 rfl rfl (any_of HT_.out (by kernel_rfl)) (fun _ _ _ h => h) (Or.inl ⟨by rfl, ?_⟩) ?_ ?_
          rotate_left
          ·
           intro w'
           go_simp
           with_reducible rfl
          rotate_left
          ·
           simp only [Act.put, List.setIfInBounds_toArray, List.set_cons_zero, List.set_cons_succ, i64_w, i32_w]
           rfl
          refine pure_ (i := 5) (N := some 94) (v := ?_) (a' := ?_) zb6_6 rfl rfl (any_of HT_.out (by kernel_rfl)) (fun _ _ _ h => h) (Or.inl ⟨by rfl, ?_⟩) ?_ ?_
          rotate_left
          ·
           intro w'
           go_simp
           with_reducible rfl
          rotate_left
          ·
           simp only [Act.put, List.setIfInBounds_toArray, List.set_cons_zero, List.set_cons_succ, i64_w, i32_w]
           rfl
          refine pure_ (i := 6) (N := some 95) (v := ?_) (a' := ?_) zb6_7 rfl rfl (any_of HT_.out (by kernel_rfl)) (fun _ _ _ h => h) (Or.inl ⟨by rfl, ?_⟩) ?_ ?_
          rotate_left
          ·
           intro w'
           go_simp
           with_reducible rfl
          rotate_left
          ·
           simp only [Act.put, List.setIfInBounds_toArray, List.set_cons_zero, List.set_cons_succ, i64_w, i32_w]
           rfl
          refine take_ (i := 7) (N := some 96) (v := ?_) (a' := ?_) zb6_8 rfl rfl (take_ofW HT_.out HW_.out (by kernel_rfl)) (fun _ _ _ h => h) (Or.inl ⟨by rfl, ?_⟩) hHeld ?_ ?_
          rotate_left
          ·
           rintro w' ⟨s0, s1, s2, s3, s4, s5, s6, s7, s8, s9, s10, s11⟩
           go_simp
           with_reducible rfl
          rotate_left
          ·
           simp only [Act.put, List.setIfInBounds_toArray, List.set_cons_zero, List.set_cons_succ, i64_w, i32_w]
           rfl
          refine take_ (i := 8) (N := some 97) (v := ?_) (a' := ?_) zb6_9 rfl rfl (take_ofW HT_.out HW_.out (by kernel_rfl)) (fun _ _ _ h => h) (Or.inl ⟨by rfl, ?_⟩) hHeld ?_ ?_
          rotate_left
          ·
           rintro w' ⟨s0, s1, s2, s3, s4, s5, s6, s7, s8, s9, s10, s11⟩
           go_simp
           with_reducible rfl
          rotate_left
          ·
           simp only [Act.put, List.setIfInBounds_toArray, List.set_cons_zero, List.set_cons_succ, i64_w, i32_w]
           rfl
          refine one_ (i := 9) (N := some 98) zb6_10 rfl rfl (one_of HT_.out (by kernel_rfl)) (by decide) (fun K hK => ?_)
          refine goes_ Try.func19 (by kernel_rfl) rfl #[.agg #[.slice A0_0 l0_0.length c0_0, .slice A0_1 l0_1.length c0_1, .int .i64 a0_2, .int .i64 a0_3, .int .i64 a0_4, .int .i64 a0_5], .agg #[.slice Ao153 t523.length co153, .slice Ao157 t526.length co157, .int .i64 t529, .int .i64 t530, .int .i64 t531, .int .i64 t532]] (by rfl) rfl rfl (by (try simp only [List.map_toArray, List.map_cons, List.map_nil]); first | done | rfl | (simp only [List.length_drop, List.length_take]; rfl)) ?_
          with_reducible refine (record_Same.calls _ _ l0_0 _ _ l0_1 a0_2 a0_3 a0_4 a0_5 _ _ t523 _ _ t526 t529 t530 t531 t532 false _ ?side1 ?side2 ?side3 ?side4 ?side5 ?side6 ?side7 ?side8 A117.out).mono ?_
          (case side1 => repeat (first | exact (Kd.C_below HR0_0.out HB.out) | exact HR0_0.out | (with_reducible refine Kd.C_alloc ?_ _) | (with_reducible refine Kd.C_drewN ?_ _) | (with_reducible refine Kd.C_drew ?_)))
          (case side2 => exact HC0_0.out)
          (case side3 => repeat (first | exact (Kd.C_below HR0_1.out HB.out) | exact HR0_1.out | (with_reducible refine Kd.C_alloc ?_ _) | (with_reducible refine Kd.C_drewN ?_ _) | (with_reducible refine Kd.C_drew ?_)))
          (case side4 => exact HC0_1.out)
          (case side5 => repeat (first | exact (Kd.R_reads' HO525.out).2.2 | (with_reducible refine Kd.C_alloc ?_ _) | (with_reducible refine Kd.C_drewN ?_ _) | (with_reducible refine Kd.C_drew ?_)))
          (case side6 => exact (Kd.R_reads' HO525.out).2.1)
          (case side7 => repeat (first | exact (Kd.R_reads' HO528.out).2.2 | (with_reducible refine Kd.C_alloc ?_ _) | (with_reducible refine Kd.C_drewN ?_ _) | (with_reducible refine Kd.C_drew ?_)))
          (case side8 => exact (Kd.R_reads' HO528.out).2.1)
          rintro e w162 ⟨rfl, hb⟩
          refine ⟨_, rfl, ?_⟩
          have n0_ := Aside0.mk (Kd.R_below (by (with_reducible repeat (first | apply Kd.R_alloc | apply Kd.R_drewN | apply Kd.R_drew)); exact HO_5.out) hb)
          have n1_ := Aside0.mk (Kd.R_below (by (with_reducible repeat (first | apply Kd.R_alloc | apply Kd.R_drewN | apply Kd.R_drew)); exact HO525.out) hb)
          have n2_ := Aside0.mk (Kd.R_below (by (with_reducible repeat (first | apply Kd.R_alloc | apply Kd.R_drewN | apply Kd.R_drew)); exact HO528.out) hb)
          have n3_ := Aside0.mk (Kd.R_below (by (with_reducible repeat (first | apply Kd.R_alloc | apply Kd.R_drewN | apply Kd.R_drew)); exact HO538.out) hb)
          have n4_ := Aside0.mk (blk_below BK493.out hb)
          have n5_ := Aside0.mk (blk_below BK494.out hb)
          have n6_ := Aside0.mk (blk_below BK535.out hb)
          have n7_ := Aside0.mk (below_step (by repeat (first | (with_reducible first | exact HB.out | apply below_alloc | apply pw_below_drewN | apply below_drew1 | refine below_set ?_ GE493.out | refine below_set ?_ GE494.out | refine below_set ?_ GE535.out) | exact HB.out | exact Below.refl _ _)) hb)
          clear HO_5
          clear HO525
          clear HO528
          clear HO538
          clear BK493
          clear BK494
          clear BK535
          clear HB
          have HO_5 := n0_
          have HO525 := n1_
          have HO528 := n2_
          have HO538 := n3_
          have BK493 := n4_
          have BK494 := n5_
          have BK535 := n6_
          have HB := n7_
          clear n0_ n1_ n2_ n3_ n4_ n5_ n6_ n7_
          (try clear hb)
          (try clear hb2)
          (try clear hk)
          (try clear hi)
          refine hK.out _ _ ⟨(blk_cell BK493.out 0).trans rfl, (blk_cell BK493.out 1).trans rfl, (blk_cell BK493.out 2).trans rfl, (blk_cell BK493.out 3).trans rfl, (blk_cell BK493.out 4).trans rfl, (blk_cell BK493.out 5).trans rfl, (blk_cell BK535.out 0).trans rfl, (blk_cell BK535.out 1).trans rfl, (blk_cell BK535.out 2).trans rfl, (blk_cell BK535.out 3).trans rfl, (blk_cell BK535.out 4).trans rfl, (blk_cell BK535.out 5).trans rfl⟩ (fun hHeld => ?_)
          clear hK K
          refine norm_ (a' := ?_) ?_ ?_
          rotate_left
          ·
           show Act.put _ (some 98) _ = _
           simp only [Act.put, List.setIfInBounds_toArray, List.set_cons_zero, List.set_cons_succ, i64_w, i32_w]
           rfl
          refine pure_ (i := 10) (N := some 99) (v := ?_) (a' := ?_) zb6_11 rfl rfl (any_of HT_.out (by kernel_rfl)) (fun _ _ _ h => h) (Or.inl ⟨by rfl, ?_⟩) ?_ ?_
          rotate_left
          ·
           intro w'
           go_simp
           with_reducible rfl
          rotate_left
          ·
           simp only [Act.put, List.setIfInBounds_toArray, List.set_cons_zero, List.set_cons_succ, i64_w, i32_w]
           rfl
          refine pure_ (i := 11) (N := some 100) (v := ?_) (a' := ?_) zb6_12 rfl rfl (any_of HT_.out (by kernel_rfl)) (fun _ _ _ h => h) (Or.inl ⟨by rfl, ?_⟩) ?_ ?_
          rotate_left
          ·
           intro w'
           go_simp
           with_reducible rfl
          rotate_left
          ·
           simp only [Act.put, List.setIfInBounds_toArray, List.set_cons_zero, List.set_cons_succ, i64_w, i32_w]
           rfl
          refine pure_ (i := 12) (N := some 101) (v := undef) (a' := ?_) zb6_13 rfl rfl (any_of HT_.out (by kernel_rfl)) (fun _ _ _ h => h) (Or.inr ⟨by rfl, rfl⟩) ?_ ?_
          rotate_left
          ·
           simp only [Act.put, List.setIfInBounds_toArray, List.set_cons_zero, List.set_cons_succ, i64_w, i32_w]
           rfl
          refine pure_ (i := 13) (N := some 102) (v := undef) (a' := ?_) zb6_14 rfl rfl (any_of HT_.out (by kernel_rfl)) (fun _ _ _ h => h) (Or.inr ⟨by rfl, rfl⟩) ?_ ?_
          rotate_left
          ·
           simp only [Act.put, List.setIfInBounds_toArray, List.set_cons_zero, List.set_cons_succ, i64_w, i32_w]
           rfl
          refine pure_ (i := 14) (N := some 103) (v := undef) (a' := ?_) zb6_15 rfl rfl (any_of HT_.out (by kernel_rfl)) (fun _ _ _ h => h) (Or.inr ⟨by rfl, rfl⟩) ?_ ?_
          rotate_left
          ·
           simp only [Act.put, List.setIfInBounds_toArray, List.set_cons_zero, List.set_cons_succ, i64_w, i32_w]
           rfl
          refine pure_ (i := 15) (N := some 104) (v := undef) (a' := ?_) zb6_16 rfl rfl (any_of HT_.out (by kernel_rfl)) (fun _ _ _ h => h) (Or.inr ⟨by rfl, rfl⟩) ?_ ?_
          rotate_left
          ·
           simp only [Act.put, List.setIfInBounds_toArray, List.set_cons_zero, List.set_cons_succ, i64_w, i32_w]
           rfl
          refine pure_ (i := 16) (N := some 105) (v := undef) (a' := ?_) zb6_17 rfl rfl (any_of HT_.out (by kernel_rfl)) (fun _ _ _ h => h) (Or.inr ⟨by rfl, rfl⟩) ?_ ?_
          rotate_left
          ·
           simp only [Act.put, List.setIfInBounds_toArray, List.set_cons_zero, List.set_cons_succ, i64_w, i32_w]
           rfl
          refine pure_ (i := 17) (N := some 106) (v := undef) (a' := ?_) zb6_24 rfl rfl (any_of HT_.out (by kernel_rfl)) (fun _ _ _ h => h) (Or.inr ⟨by rfl, rfl⟩) ?_ ?_
          rotate_left
          ·
           simp only [Act.put, List.setIfInBounds_toArray, List.set_cons_zero, List.set_cons_succ, i64_w, i32_w]
           rfl
          refine pure_ (i := 18) (N := some 107) (v := undef) (a' := ?_) zb6_25 rfl rfl (any_of HT_.out (by kernel_rfl)) (fun _ _ _ h => h) (Or.inr ⟨by rfl, rfl⟩) ?_ ?_
          rotate_left
          ·
           simp only [Act.put, List.setIfInBounds_toArray, List.set_cons_zero, List.set_cons_succ, i64_w, i32_w]
           rfl
          refine pure_ (i := 19) (N := some 108) (v := undef) (a' := ?_) zb6_18 rfl rfl (any_of HT_.out (by kernel_rfl)) (fun _ _ _ h => h) (Or.inr ⟨by rfl, rfl⟩) ?_ ?_
          rotate_left
          ·
           simp only [Act.put, List.setIfInBounds_toArray, List.set_cons_zero, List.set_cons_succ, i64_w, i32_w]
           rfl
          refine pure_ (i := 20) (N := some 109) (v := undef) (a' := ?_) zb6_19 rfl rfl (any_of HT_.out (by kernel_rfl)) (fun _ _ _ h => h) (Or.inr ⟨by rfl, rfl⟩) ?_ ?_
          rotate_left
          ·
           simp only [Act.put, List.setIfInBounds_toArray, List.set_cons_zero, List.set_cons_succ, i64_w, i32_w]
           rfl
          refine pure_ (i := 21) (N := some 110) (v := undef) (a' := ?_) zb6_20 rfl rfl (any_of HT_.out (by kernel_rfl)) (fun _ _ _ h => h) (Or.inr ⟨by rfl, rfl⟩) ?_ ?_
          rotate_left
          ·
           simp only [Act.put, List.setIfInBounds_toArray, List.set_cons_zero, List.set_cons_succ, i64_w, i32_w]
           rfl
          refine pure_ (i := 22) (N := some 111) (v := undef) (a' := ?_) zb6_21 rfl rfl (any_of HT_.out (by kernel_rfl)) (fun _ _ _ h => h) (Or.inr ⟨by rfl, rfl⟩) ?_ ?_
          rotate_left
          ·
           simp only [Act.put, List.setIfInBounds_toArray, List.set_cons_zero, List.set_cons_succ, i64_w, i32_w]
           rfl
          refine pure_ (i := 23) (N := some 112) (v := ?_) (a' := ?_) zb6_22 rfl rfl (any_of HT_.out (by kernel_rfl)) (fun _ _ _ h => h) (Or.inl ⟨by rfl, ?_⟩) ?_ ?_
          rotate_left
          ·
           intro w'
           go_simp
           with_reducible rfl
          rotate_left
          ·
           simp only [Act.put, List.setIfInBounds_toArray, List.set_cons_zero, List.set_cons_succ, i64_w, i32_w]
           rfl
          refine pure_ (i := 24) (N := some 4) (v := ?_) (a' := ?_) zb6_23 rfl rfl (any_of HT_.out (by kernel_rfl)) (fun _ _ _ h => h) (Or.inl ⟨by rfl, ?_⟩) ?_ ?_
          rotate_left
          ·
           intro w'
           go_simp
           with_reducible rfl
          rotate_left
          ·
           simp only [Act.put, List.setIfInBounds_toArray, List.set_cons_zero, List.set_cons_succ, i64_w, i32_w]
           rfl
          refine done_ (done_of HT_.out (by kernel_rfl)) ?_
          try go_wp2
          go_ret
          exact ⟨by first | rfl | (simp [errW_none, errW_some] <;> rfl) | (simp [*, errW_none, errW_some] <;> rfl), by repeat (first | (with_reducible first | exact HB.out | apply below_alloc | apply pw_below_drewN | apply below_drew1 | refine below_set ?_ GE493.out | refine below_set ?_ GE494.out | refine below_set ?_ GE535.out) | exact HB.out | exact Below.refl _ _)⟩
       ·
        rw [if_neg c103] at H
        have c103b0 : (t534 == 0) = false := beq_eq_false_iff_ne.mpr c103
        have c103b1 : (t534 != 0) = true := bne_iff_ne.mpr c103
        obtain rfl := Option.some.inj H
        obtain ⟨Ao163, co163, eo163⟩ := Kd.R_slice HO_5.out
        subst eo163
        try go_wp2_with (first | ((with_reducible refine gate_callee (f := 21) rfl ?_); refine goesL_ (some 80) rfl rfl Try.func21 (by kernel_rfl) rfl #[.slice Ao163 t499.length co163] rfl (by (try simp only [List.map_toArray, List.map_cons, List.map_nil]); first | done | rfl | (simp only [List.length_drop, List.length_take]; rfl)) ?_; (with_reducible refine (record_Decode.calls kj26 _ _ t499 t523 t526 t529 t530 t531 t532 t533 t534 _ ?side1 ?side2 A101.out).mono ?_); (case side1 => repeat (first | exact (Kd.R_reads' HO_5.out).2.2 | (with_reducible refine Kd.C_alloc ?_ _) | (with_reducible refine Kd.C_drewN ?_ _) | (with_reducible refine Kd.C_drew ?_))); (case side2 => exact (Kd.R_reads' HO_5.out).2.1); rintro e w164 ⟨v524, v527, rfl, ho0, ho1, hb⟩; refine ⟨_, rfl, ?_⟩; have n0_ := Aside0.mk (Kd.R_mono (Kd.R_told (Kd.R_told (Kd.R_old (by (with_reducible repeat (first | apply Kd.R_alloc | apply Kd.R_drewN | apply Kd.R_drew)); exact HO_5.out) hb) (Kd.R_base ho0)) (Kd.R_base ho1)) (fun _ h_ => h_.1)); have n1_ := Aside0.mk (Kd.R_lower (Kd.R_new' ho0 (Kd.R_lt (by (with_reducible repeat (first | apply Kd.R_alloc | apply Kd.R_drewN | apply Kd.R_drew)); exact HO_5.out))) (below_size (by repeat (first | (with_reducible first | exact HB.out | apply below_alloc | apply pw_below_drewN | apply below_drew1 | refine below_set ?_ GE493.out | refine below_set ?_ GE494.out) | exact HB.out | exact Below.refl _ _)))); have n2_ := Aside0.mk (Kd.R_lower (Kd.R_new' ho1 (Kd.R_lt (by (with_reducible repeat (first | apply Kd.R_alloc | apply Kd.R_drewN | apply Kd.R_drew)); exact HO_5.out))) (below_size (by repeat (first | (with_reducible first | exact HB.out | apply below_alloc | apply pw_below_drewN | apply below_drew1 | refine below_set ?_ GE493.out | refine below_set ?_ GE494.out) | exact HB.out | exact Below.refl _ _)))); have n3_ := Aside0.mk (blk_below BK493.out hb); have n4_ := Aside0.mk (blk_below BK494.out hb); have n5_ := Aside0.mk (below_step (by repeat (first | (with_reducible first | exact HB.out | apply below_alloc | apply pw_below_drewN | apply below_drew1 | refine below_set ?_ GE493.out | refine below_set ?_ GE494.out) | exact HB.out | exact Below.refl _ _)) hb); clear HO_5; clear BK493; clear BK494; clear HB; have HO_5 := n0_; have HO525 := n1_; have HO528 := n2_; have BK493 := n3_; have BK494 := n4_; have HB := n5_; clear n0_ n1_ n2_ n3_ n4_ n5_; (try clear hb); (try clear hb2); (try clear hk); (try clear hi); (try clear ho0); (try clear ho1)) | ((with_reducible refine gate_dst (N := 12) rfl ?_); refine box_event ?hg (N := 12) ?hd (cs := #[.slice none 0 0, .slice none 0 0, .int .i64 0, .int .i64 0, .int .i64 0, .int .i64 0]) (t := 24) ?hr ?_; (case hd => rfl); (case hg => rfl); (case hr => first | (go_simp; done) | (go_simp; rfl)); intro gb535 hg w165 hbox hb; have n0_ := Aside0.mk (Kd.R_below (by (with_reducible repeat (first | apply Kd.R_alloc | apply Kd.R_drewN | apply Kd.R_drew)); exact HO_5.out) hb); have n1_ := Aside0.mk (Kd.R_below (by (with_reducible repeat (first | apply Kd.R_alloc | apply Kd.R_drewN | apply Kd.R_drew)); exact HO525.out) hb); have n2_ := Aside0.mk (Kd.R_below (by (with_reducible repeat (first | apply Kd.R_alloc | apply Kd.R_drewN | apply Kd.R_drew)); exact HO528.out) hb); have n3_ := Aside0.mk (blk_below BK493.out hb); have n4_ := Aside0.mk (blk_below BK494.out hb); have n5_ := Aside0.mk (below_step (by repeat (first | (with_reducible first | exact HB.out | apply below_alloc | apply pw_below_drewN | apply below_drew1 | refine below_set ?_ GE493.out | refine below_set ?_ GE494.out) | exact HB.out | exact Below.refl _ _)) hb); have n6_ := Aside0.mk (hbox); have n7_ := Aside0.mk ((by rw [hg]; exact (below_size (by repeat (first | (with_reducible first | exact HB.out | apply below_alloc | apply pw_below_drewN | apply below_drew1 | refine below_set ?_ GE493.out | refine below_set ?_ GE494.out) | exact HB.out | exact Below.refl _ _))) : w.heap.size ≤ gb535)); have n8_ := Aside0.mk ((by rw [hg]; exact (below_size (by repeat (first | (with_reducible first | exact HB.out | apply below_alloc | apply pw_below_drewN | apply below_drew1 | refine below_set ?_ GE493.out | refine below_set ?_ GE494.out) | exact HB.out | exact Below.refl _ _))) : w.heap.size ≤ gb535)); have n9_ := Aside0.mk ((by rw [hg]; exact Nat.ne_of_lt (blk_lt BK493.out) : gb493 ≠ gb535)); have n10_ := Aside0.mk ((by rw [hg]; exact Nat.ne_of_gt (blk_lt BK493.out) : gb535 ≠ gb493)); have n11_ := Aside0.mk ((by rw [hg]; exact Nat.ne_of_lt (blk_lt BK494.out) : gb494 ≠ gb535)); have n12_ := Aside0.mk ((by rw [hg]; exact Nat.ne_of_gt (blk_lt BK494.out) : gb535 ≠ gb494)); clear HO_5; clear HO525; clear HO528; clear BK493; clear BK494; clear HB; have HO_5 := n0_; have HO525 := n1_; have HO528 := n2_; have BK493 := n3_; have BK494 := n4_; have HB := n5_; have BK535 := n6_; have GW535 := n7_; have GE535 := n8_; have NB493_535 := n9_; have NB535_493 := n10_; have NB494_535 := n11_; have NB535_494 := n12_; clear n0_ n1_ n2_ n3_ n4_ n5_ n6_ n7_ n8_ n9_ n10_ n11_ n12_; clear hb hbox hg; obtain ⟨Ao166, co166, eo166⟩ := Kd.R_slice HO525.out; subst eo166; have hnb167 := NB535_493.out; have hnc167 := NB493_535.out; have hnb168 := NB535_494.out; have hnc168 := NB494_535.out; have hcz169_0 : w165.cell? ⟨gb535, 0, none⟩ = some (.slice none 0 0) := (blk_cell BK535.out 0).trans rfl; have hcz169_1 : w165.cell? ⟨gb535, 1, none⟩ = some (.slice none 0 0) := (blk_cell BK535.out 1).trans rfl; have hcz169_2 : w165.cell? ⟨gb535, 2, none⟩ = some (.int .i64 0) := (blk_cell BK535.out 2).trans rfl; have hcz169_3 : w165.cell? ⟨gb535, 3, none⟩ = some (.int .i64 0) := (blk_cell BK535.out 3).trans rfl; have hcz169_4 : w165.cell? ⟨gb535, 4, none⟩ = some (.int .i64 0) := (blk_cell BK535.out 4).trans rfl; have hcz169_5 : w165.cell? ⟨gb535, 5, none⟩ = some (.int .i64 0) := (blk_cell BK535.out 5).trans rfl; have hfz169_0 := blk_frozen BK535.out 0; have hfz169_1 := blk_frozen BK535.out 1; have hfz169_2 := blk_frozen BK535.out 2; have hfz169_3 := blk_frozen BK535.out 3; have hfz169_4 := blk_frozen BK535.out 4; have hfz169_5 := blk_frozen BK535.out 5; obtain ⟨Ao170, co170, eo170⟩ := Kd.R_slice HO528.out; subst eo170; have hnb171 := NB494_493.out; have hnc171 := NB493_494.out; have hcz172_0 : w165.cell? ⟨gb494, 0, none⟩ = some (.slice A1_0 l1_0.length c1_0) := (blk_cell BK494.out 0).trans rfl; have hcz172_1 : w165.cell? ⟨gb494, 1, none⟩ = some (.slice A1_1 l1_1.length c1_1) := (blk_cell BK494.out 1).trans rfl; have hcz172_2 : w165.cell? ⟨gb494, 2, none⟩ = some (.int .i64 a1_2) := (blk_cell BK494.out 2).trans rfl; have hcz172_3 : w165.cell? ⟨gb494, 3, none⟩ = some (.int .i64 a1_3) := (blk_cell BK494.out 3).trans rfl; have hcz172_4 : w165.cell? ⟨gb494, 4, none⟩ = some (.int .i64 a1_4) := (blk_cell BK494.out 4).trans rfl; have hcz172_5 : w165.cell? ⟨gb494, 5, none⟩ = some (.int .i64 a1_5) := (blk_cell BK494.out 5).trans rfl; have hfz172_0 := blk_frozen BK494.out 0; have hfz172_1 := blk_frozen BK494.out 1; have hfz172_2 := blk_frozen BK494.out 2; have hfz172_3 := blk_frozen BK494.out 3; have hfz172_4 := blk_frozen BK494.out 4; have hfz172_5 := blk_frozen BK494.out 5) | ((with_reducible refine gate_callee (f := 10) rfl ?_); refine goesL_ (some 86) rfl rfl Try.func10 (by kernel_rfl) rfl #[.agg #[.slice A1_0 l1_0.length c1_0, .slice A1_1 l1_1.length c1_1, .int .i64 a1_2, .int .i64 a1_3, .int .i64 a1_4, .int .i64 a1_5]] rfl (by (try simp only [List.map_toArray, List.map_cons, List.map_nil]); first | done | rfl | (simp only [List.length_drop, List.length_take]; rfl)) ?_; (with_reducible refine (record_Encode.calls kj26 _ _ l1_0 _ _ l1_1 a1_2 a1_3 a1_4 a1_5 t536 t539 _ ?side1 ?side2 ?side3 ?side4 A102.out).mono ?_); (case side1 => exact Kd.C_below HR1_0.out (by repeat (first | (with_reducible first | exact HB.out | apply below_alloc | apply pw_below_drewN | apply below_drew1 | refine below_set ?_ GE493.out | refine below_set ?_ GE494.out | refine below_set ?_ GE535.out) | exact HB.out | exact Below.refl _ _))); (case side2 => exact HC1_0.out); (case side3 => exact Kd.C_below HR1_1.out (by repeat (first | (with_reducible first | exact HB.out | apply below_alloc | apply pw_below_drewN | apply below_drew1 | refine below_set ?_ GE493.out | refine below_set ?_ GE494.out | refine below_set ?_ GE535.out) | exact HB.out | exact Below.refl _ _))); (case side4 => exact HC1_1.out); rintro e w173 ⟨v537, rfl, ho0, hb⟩; refine ⟨_, rfl, ?_⟩; have n0_ := Aside0.mk (Kd.R_elder' (by (with_reducible repeat (first | apply Kd.R_alloc | apply Kd.R_drewN | apply Kd.R_drew)); exact (Kd.R_mono (Kd.R_far (p := ⟨gb535, 5, none⟩) (Kd.R_far (p := ⟨gb535, 4, none⟩) (Kd.R_far (p := ⟨gb535, 3, none⟩) (Kd.R_far (p := ⟨gb535, 2, none⟩) (Kd.R_far (p := ⟨gb535, 1, none⟩) (Kd.R_far (p := ⟨gb535, 0, none⟩) (Kd.R_types HO_5.out BK535.out (by decide)) (fun _ hk => hk.2) (.slice Ao166 t523.length co166)) (fun _ hk => hk.2) (.slice Ao170 t526.length co170)) (fun _ hk => hk.2) (.int .i64 t529)) (fun _ hk => hk.2) (.int .i64 t530)) (fun _ hk => hk.2) (.int .i64 t531)) (fun _ hk => hk.2) (.int .i64 t532)) (fun _ h_ => h_.1))) (Kd.R_base ho0) hb); have n1_ := Aside0.mk (Kd.R_elder' (by (with_reducible repeat (first | apply Kd.R_alloc | apply Kd.R_drewN | apply Kd.R_drew)); exact (Kd.R_mono (Kd.R_far (p := ⟨gb535, 5, none⟩) (Kd.R_far (p := ⟨gb535, 4, none⟩) (Kd.R_far (p := ⟨gb535, 3, none⟩) (Kd.R_far (p := ⟨gb535, 2, none⟩) (Kd.R_far (p := ⟨gb535, 1, none⟩) (Kd.R_far (p := ⟨gb535, 0, none⟩) (Kd.R_types HO525.out BK535.out (by decide)) (fun _ hk => hk.2) (.slice Ao166 t523.length co166)) (fun _ hk => hk.2) (.slice Ao170 t526.length co170)) (fun _ hk => hk.2) (.int .i64 t529)) (fun _ hk => hk.2) (.int .i64 t530)) (fun _ hk => hk.2) (.int .i64 t531)) (fun _ hk => hk.2) (.int .i64 t532)) (fun _ h_ => h_.1))) (Kd.R_base ho0) hb); have n2_ := Aside0.mk (Kd.R_elder' (by (with_reducible repeat (first | apply Kd.R_alloc | apply Kd.R_drewN | apply Kd.R_drew)); exact (Kd.R_mono (Kd.R_far (p := ⟨gb535, 5, none⟩) (Kd.R_far (p := ⟨gb535, 4, none⟩) (Kd.R_far (p := ⟨gb535, 3, none⟩) (Kd.R_far (p := ⟨gb535, 2, none⟩) (Kd.R_far (p := ⟨gb535, 1, none⟩) (Kd.R_far (p := ⟨gb535, 0, none⟩) (Kd.R_types HO528.out BK535.out (by decide)) (fun _ hk => hk.2) (.slice Ao166 t523.length co166)) (fun _ hk => hk.2) (.slice Ao170 t526.length co170)) (fun _ hk => hk.2) (.int .i64 t529)) (fun _ hk => hk.2) (.int .i64 t530)) (fun _ hk => hk.2) (.int .i64 t531)) (fun _ hk => hk.2) (.int .i64 t532)) (fun _ h_ => h_.1))) (Kd.R_base ho0) hb); have n3_ := Aside0.mk (Kd.R_lower (Kd.R_new' (Kd.R_new' (Kd.R_new' ho0 (Kd.R_lt (by (with_reducible repeat (first | apply Kd.R_alloc | apply Kd.R_drewN | apply Kd.R_drew)); exact (Kd.R_mono (Kd.R_far (p := ⟨gb535, 5, none⟩) (Kd.R_far (p := ⟨gb535, 4, none⟩) (Kd.R_far (p := ⟨gb535, 3, none⟩) (Kd.R_far (p := ⟨gb535, 2, none⟩) (Kd.R_far (p := ⟨gb535, 1, none⟩) (Kd.R_far (p := ⟨gb535, 0, none⟩) (Kd.R_types HO_5.out BK535.out (by decide)) (fun _ hk => hk.2) (.slice Ao166 t523.length co166)) (fun _ hk => hk.2) (.slice Ao170 t526.length co170)) (fun _ hk => hk.2) (.int .i64 t529)) (fun _ hk => hk.2) (.int .i64 t530)) (fun _ hk => hk.2) (.int .i64 t531)) (fun _ hk => hk.2) (.int .i64 t532)) (fun _ h_ => h_.1))))) (Kd.R_lt (by (with_reducible repeat (first | apply Kd.R_alloc | apply Kd.R_drewN | apply Kd.R_drew)); exact (Kd.R_mono (Kd.R_far (p := ⟨gb535, 5, none⟩) (Kd.R_far (p := ⟨gb535, 4, none⟩) (Kd.R_far (p := ⟨gb535, 3, none⟩) (Kd.R_far (p := ⟨gb535, 2, none⟩) (Kd.R_far (p := ⟨gb535, 1, none⟩) (Kd.R_far (p := ⟨gb535, 0, none⟩) (Kd.R_types HO525.out BK535.out (by decide)) (fun _ hk => hk.2) (.slice Ao166 t523.length co166)) (fun _ hk => hk.2) (.slice Ao170 t526.length co170)) (fun _ hk => hk.2) (.int .i64 t529)) (fun _ hk => hk.2) (.int .i64 t530)) (fun _ hk => hk.2) (.int .i64 t531)) (fun _ hk => hk.2) (.int .i64 t532)) (fun _ h_ => h_.1))))) (Kd.R_lt (by (with_reducible repeat (first | apply Kd.R_alloc | apply Kd.R_drewN | apply Kd.R_drew)); exact (Kd.R_mono (Kd.R_far (p := ⟨gb535, 5, none⟩) (Kd.R_far (p := ⟨gb535, 4, none⟩) (Kd.R_far (p := ⟨gb535, 3, none⟩) (Kd.R_far (p := ⟨gb535, 2, none⟩) (Kd.R_far (p := ⟨gb535, 1, none⟩) (Kd.R_far (p := ⟨gb535, 0, none⟩) (Kd.R_types HO528.out BK535.out (by decide)) (fun _ hk => hk.2) (.slice Ao166 t523.length co166)) (fun _ hk => hk.2) (.slice Ao170 t526.length co170)) (fun _ hk => hk.2) (.int .i64 t529)) (fun _ hk => hk.2) (.int .i64 t530)) (fun _ hk => hk.2) (.int .i64 t531)) (fun _ hk => hk.2) (.int .i64 t532)) (fun _ h_ => h_.1))))) (below_size (by repeat (first | (with_reducible first | exact HB.out | apply below_alloc | apply pw_below_drewN | apply below_drew1 | refine below_set ?_ GE493.out | refine below_set ?_ GE494.out | refine below_set ?_ GE535.out) | exact HB.out | exact Below.refl _ _)))); have n4_ := Aside0.mk (blk_below (g := gb493) (o := .cells #[.slice A0_0 l0_0.length c0_0, .slice A0_1 l0_1.length c0_1, .int .i64 a0_2, .int .i64 a0_3, .int .i64 a0_4, .int .i64 a0_5] 24 (0, 0)) (by refine blk_far ?_ NB493_535.out _; refine blk_far ?_ NB493_535.out _; refine blk_far ?_ NB493_535.out _; refine blk_far ?_ NB493_535.out _; refine blk_far ?_ NB493_535.out _; refine blk_far ?_ NB493_535.out _; exact BK493.out) hb); have n5_ := Aside0.mk (blk_below (g := gb494) (o := .cells #[.slice A1_0 l1_0.length c1_0, .slice A1_1 l1_1.length c1_1, .int .i64 a1_2, .int .i64 a1_3, .int .i64 a1_4, .int .i64 a1_5] 24 (0, 0)) (by refine blk_far ?_ NB494_535.out _; refine blk_far ?_ NB494_535.out _; refine blk_far ?_ NB494_535.out _; refine blk_far ?_ NB494_535.out _; refine blk_far ?_ NB494_535.out _; refine blk_far ?_ NB494_535.out _; exact BK494.out) hb); have n6_ := Aside0.mk (blk_below (g := gb535) (o := .cells #[.slice Ao166 t523.length co166, .slice Ao170 t526.length co170, .int .i64 t529, .int .i64 t530, .int .i64 t531, .int .i64 t532] 24 (0, 0)) (by refine blk_put (cs := #[.slice Ao166 t523.length co166, .slice Ao170 t526.length co170, .int .i64 t529, .int .i64 t530, .int .i64 t531, .int .i64 0]) ?_ 5 _ rfl; refine blk_put (cs := #[.slice Ao166 t523.length co166, .slice Ao170 t526.length co170, .int .i64 t529, .int .i64 t530, .int .i64 0, .int .i64 0]) ?_ 4 _ rfl; refine blk_put (cs := #[.slice Ao166 t523.length co166, .slice Ao170 t526.length co170, .int .i64 t529, .int .i64 0, .int .i64 0, .int .i64 0]) ?_ 3 _ rfl; refine blk_put (cs := #[.slice Ao166 t523.length co166, .slice Ao170 t526.length co170, .int .i64 0, .int .i64 0, .int .i64 0, .int .i64 0]) ?_ 2 _ rfl; refine blk_put (cs := #[.slice Ao166 t523.length co166, .slice none 0 0, .int .i64 0, .int .i64 0, .int .i64 0, .int .i64 0]) ?_ 1 _ rfl; refine blk_put (cs := #[.slice none 0 0, .slice none 0 0, .int .i64 0, .int .i64 0, .int .i64 0, .int .i64 0]) ?_ 0 _ rfl; exact BK535.out) hb); have n7_ := Aside0.mk (below_step (by repeat (first | (with_reducible first | exact HB.out | apply below_alloc | apply pw_below_drewN | apply below_drew1 | refine below_set ?_ GE493.out | refine below_set ?_ GE494.out | refine below_set ?_ GE535.out) | exact HB.out | exact Below.refl _ _)) hb); clear HO_5; clear HO525; clear HO528; clear BK493; clear BK494; clear BK535; clear HB; have HO_5 := n0_; have HO525 := n1_; have HO528 := n2_; have HO538 := n3_; have BK493 := n4_; have BK494 := n5_; have BK535 := n6_; have HB := n7_; clear n0_ n1_ n2_ n3_ n4_ n5_ n6_ n7_; (try clear hb); (try clear hb2); (try clear hk); (try clear hi); (try clear ho0)))
        have n0_ := Aside0.mk (Kd.R_drew HO_5.out)
        have n1_ := Aside0.mk (Kd.R_drew HO525.out)
        have n2_ := Aside0.mk (Kd.R_drew HO528.out)
        have n3_ := Aside0.mk (Kd.R_drew HO538.out)
        have n4_ := Aside0.mk (blk_drew BK493.out)
        have n5_ := Aside0.mk (blk_drew BK494.out)
        have n6_ := Aside0.mk (blk_drew BK535.out)
        have n7_ := Aside0.mk (below_drew1 HB.out)
        clear HO_5
        clear HO525
        clear HO528
        clear HO538
        clear BK493
        clear BK494
        clear BK535
        clear HB
        have HO_5 := n0_
        have HO525 := n1_
        have HO528 := n2_
        have HO538 := n3_
        have BK493 := n4_
        have BK494 := n5_
        have BK535 := n6_
        have HB := n7_
        clear n0_ n1_ n2_ n3_ n4_ n5_ n6_ n7_
        refine start_ (n := 25) (S := fun w' => True) (ds := []) zb6_0 (by kernel_rfl) rfl rfl trivial (fun hHeld => ?_); refine with_tabW terrierlaw13_RecordBack.tab13 terrierlaw13_RecordBack.bits13 (fun HT_ HW_ => ?_)
        generalize w173.drew = w174 at HO_5 HO525 HO528 HO538 BK493 BK494 BK535 HB hHeld ⊢
        refine pure_ (i := 0) (N := some 89) (v := ?_) (a' := ?_) zb6_1 rfl rfl (any_of HT_.out (by kernel_rfl)) (fun _ _ _ h => h) (Or.inl ⟨by rfl, ?_⟩) ?_ ?_
        rotate_left
        ·
         intro w'
         go_simp
         with_reducible rfl
        rotate_left
        ·
         simp only [Act.put, List.setIfInBounds_toArray, List.set_cons_zero, List.set_cons_succ, i64_w, i32_w]
         rfl
        refine pure_ (i := 1) (N := some 90) (v := ?_) (a' := ?_) zb6_2 rfl rfl (any_of HT_.out (by kernel_rfl)) (fun _ _ _ h => h) (Or.inl ⟨by rfl, ?_⟩) ?_ ?_
        rotate_left
        ·
         intro w'
         go_simp
         with_reducible rfl
        rotate_left
        ·
         simp only [Act.put, List.setIfInBounds_toArray, List.set_cons_zero, List.set_cons_succ, i64_w, i32_w]
         rfl
        refine pure_ (i := 2) (N := some 91) (v := ?_) (a' := ?_) zb6_3 rfl rfl (any_of HT_.out (by kernel_rfl)) (fun _ _ _ h => h) (Or.inl ⟨by rfl, ?_⟩) ?_ ?_
        rotate_left
        ·
         intro w'
         go_simp
         with_reducible rfl
        rotate_left
        ·
         simp only [Act.put, List.setIfInBounds_toArray, List.set_cons_zero, List.set_cons_succ, i64_w, i32_w]
         rfl
        refine pure_ (i := 3) (N := some 92) (v := undef) (a' := ?_) zb6_4 rfl rfl (any_of HT_.out (by kernel_rfl)) (fun _ _ _ h => h) (Or.inr ⟨by rfl, rfl⟩) ?_ ?_
        rotate_left
        ·
         simp only [Act.put, List.setIfInBounds_toArray, List.set_cons_zero, List.set_cons_succ, i64_w, i32_w]
         rfl
        refine pure_ (i := 4) (N := some 93) (v := undef) (a' := ?_) zb6_5 rfl rfl (any_of HT_.out (by kernel_rfl)) (fun _ _ _ h => h) (Or.inr ⟨by rfl, rfl⟩) ?_ ?_
        rotate_left
        ·
         simp only [Act.put, List.setIfInBounds_toArray, List.set_cons_zero, List.set_cons_succ, i64_w, i32_w]
         rfl
        refine pure_ (i := 5) (N := some 94) (v := ?_) (a' := ?_) zb6_6 rfl rfl (any_of HT_.out (by kernel_rfl)) (fun _ _ _ h => h) (Or.inl ⟨by rfl, ?_⟩) ?_ ?_
        rotate_left
        ·
         intro w'
         go_simp
         with_reducible rfl
        rotate_left
        ·
         simp only [Act.put, List.setIfInBounds_toArray, List.set_cons_zero, List.set_cons_succ, i64_w, i32_w]
         rfl
        refine pure_ (i := 6) (N := some 95) (v := ?_) (a' := ?_) zb6_7 rfl rfl (any_of HT_.out (by kernel_rfl)) (fun _ _ _ h => h) (Or.inl ⟨by rfl, ?_⟩) ?_ ?_
        rotate_left
        ·
         intro w'
         go_simp
         with_reducible rfl
        rotate_left
        ·
         simp only [Act.put, List.setIfInBounds_toArray, List.set_cons_zero, List.set_cons_succ, i64_w, i32_w]
         rfl
        refine pure_ (i := 7) (N := some 96) (v := undef) (a' := ?_) zb6_8 rfl rfl (any_of HT_.out (by kernel_rfl)) (fun _ _ _ h => h) (Or.inr ⟨by rfl, rfl⟩) ?_ ?_
        rotate_left
        ·
         simp only [Act.put, List.setIfInBounds_toArray, List.set_cons_zero, List.set_cons_succ, i64_w, i32_w]
         rfl
        refine pure_ (i := 8) (N := some 97) (v := undef) (a' := ?_) zb6_9 rfl rfl (any_of HT_.out (by kernel_rfl)) (fun _ _ _ h => h) (Or.inr ⟨by rfl, rfl⟩) ?_ ?_
        rotate_left
        ·
         simp only [Act.put, List.setIfInBounds_toArray, List.set_cons_zero, List.set_cons_succ, i64_w, i32_w]
         rfl
        refine pure_ (i := 9) (N := some 98) (v := undef) (a' := ?_) zb6_10 rfl rfl (any_of HT_.out (by kernel_rfl)) (fun _ _ _ h => h) (Or.inr ⟨by rfl, rfl⟩) ?_ ?_
        rotate_left
        ·
         simp only [Act.put, List.setIfInBounds_toArray, List.set_cons_zero, List.set_cons_succ, i64_w, i32_w]
         rfl
        refine pure_ (i := 10) (N := some 99) (v := ?_) (a' := ?_) zb6_11 rfl rfl (any_of HT_.out (by kernel_rfl)) (fun _ _ _ h => h) (Or.inl ⟨by rfl, ?_⟩) ?_ ?_
        rotate_left
        ·
         intro w'
         go_simp
         with_reducible rfl
        rotate_left
        ·
         simp only [Act.put, List.setIfInBounds_toArray, List.set_cons_zero, List.set_cons_succ, i64_w, i32_w]
         rfl
        refine pure_ (i := 11) (N := some 100) (v := ?_) (a' := ?_) zb6_12 rfl rfl (any_of HT_.out (by kernel_rfl)) (fun _ _ _ h => h) (Or.inl ⟨by rfl, ?_⟩) ?_ ?_
        rotate_left
        ·
         intro w'
         go_simp
         with_reducible rfl
        rotate_left
        ·
         simp only [Act.put, List.setIfInBounds_toArray, List.set_cons_zero, List.set_cons_succ, i64_w, i32_w]
         rfl
        refine pure_ (i := 12) (N := some 101) (v := undef) (a' := ?_) zb6_13 rfl rfl (any_of HT_.out (by kernel_rfl)) (fun _ _ _ h => h) (Or.inr ⟨by rfl, rfl⟩) ?_ ?_
        rotate_left
        ·
         simp only [Act.put, List.setIfInBounds_toArray, List.set_cons_zero, List.set_cons_succ, i64_w, i32_w]
         rfl
        refine pure_ (i := 13) (N := some 102) (v := undef) (a' := ?_) zb6_14 rfl rfl (any_of HT_.out (by kernel_rfl)) (fun _ _ _ h => h) (Or.inr ⟨by rfl, rfl⟩) ?_ ?_
        rotate_left
        ·
         simp only [Act.put, List.setIfInBounds_toArray, List.set_cons_zero, List.set_cons_succ, i64_w, i32_w]
         rfl
        refine pure_ (i := 14) (N := some 103) (v := undef) (a' := ?_) zb6_15 rfl rfl (any_of HT_.out (by kernel_rfl)) (fun _ _ _ h => h) (Or.inr ⟨by rfl, rfl⟩) ?_ ?_
        rotate_left
        ·
         simp only [Act.put, List.setIfInBounds_toArray, List.set_cons_zero, List.set_cons_succ, i64_w, i32_w]
         rfl
        refine pure_ (i := 15) (N := some 104) (v := undef) (a' := ?_) zb6_16 rfl rfl (any_of HT_.out (by kernel_rfl)) (fun _ _ _ h => h) (Or.inr ⟨by rfl, rfl⟩) ?_ ?_
        rotate_left
        ·
         simp only [Act.put, List.setIfInBounds_toArray, List.set_cons_zero, List.set_cons_succ, i64_w, i32_w]
         rfl
        refine pure_ (i := 16) (N := some 105) (v := undef) (a' := ?_) zb6_17 rfl rfl (any_of HT_.out (by kernel_rfl)) (fun _ _ _ h => h) (Or.inr ⟨by rfl, rfl⟩) ?_ ?_
        rotate_left
        ·
         simp only [Act.put, List.setIfInBounds_toArray, List.set_cons_zero, List.set_cons_succ, i64_w, i32_w]
         rfl
        refine pure_ (i := 17) (N := some 106) (v := undef) (a' := ?_) zb6_24 rfl rfl (any_of HT_.out (by kernel_rfl)) (fun _ _ _ h => h) (Or.inr ⟨by rfl, rfl⟩) ?_ ?_
        rotate_left
        ·
         simp only [Act.put, List.setIfInBounds_toArray, List.set_cons_zero, List.set_cons_succ, i64_w, i32_w]
         rfl
        refine pure_ (i := 18) (N := some 107) (v := undef) (a' := ?_) zb6_25 rfl rfl (any_of HT_.out (by kernel_rfl)) (fun _ _ _ h => h) (Or.inr ⟨by rfl, rfl⟩) ?_ ?_
        rotate_left
        ·
         simp only [Act.put, List.setIfInBounds_toArray, List.set_cons_zero, List.set_cons_succ, i64_w, i32_w]
         rfl
        refine pure_ (i := 19) (N := some 108) (v := undef) (a' := ?_) zb6_18 rfl rfl (any_of HT_.out (by kernel_rfl)) (fun _ _ _ h => h) (Or.inr ⟨by rfl, rfl⟩) ?_ ?_
        rotate_left
        ·
         simp only [Act.put, List.setIfInBounds_toArray, List.set_cons_zero, List.set_cons_succ, i64_w, i32_w]
         rfl
        refine pure_ (i := 20) (N := some 109) (v := undef) (a' := ?_) zb6_19 rfl rfl (any_of HT_.out (by kernel_rfl)) (fun _ _ _ h => h) (Or.inr ⟨by rfl, rfl⟩) ?_ ?_
        rotate_left
        ·
         simp only [Act.put, List.setIfInBounds_toArray, List.set_cons_zero, List.set_cons_succ, i64_w, i32_w]
         rfl
        refine pure_ (i := 21) (N := some 110) (v := undef) (a' := ?_) zb6_20 rfl rfl (any_of HT_.out (by kernel_rfl)) (fun _ _ _ h => h) (Or.inr ⟨by rfl, rfl⟩) ?_ ?_
        rotate_left
        ·
         simp only [Act.put, List.setIfInBounds_toArray, List.set_cons_zero, List.set_cons_succ, i64_w, i32_w]
         rfl
        refine pure_ (i := 22) (N := some 111) (v := undef) (a' := ?_) zb6_21 rfl rfl (any_of HT_.out (by kernel_rfl)) (fun _ _ _ h => h) (Or.inr ⟨by rfl, rfl⟩) ?_ ?_
        rotate_left
        ·
         simp only [Act.put, List.setIfInBounds_toArray, List.set_cons_zero, List.set_cons_succ, i64_w, i32_w]
         rfl
        refine pure_ (i := 23) (N := some 112) (v := ?_) (a' := ?_) zb6_22 rfl rfl (any_of HT_.out (by kernel_rfl)) (fun _ _ _ h => h) (Or.inl ⟨by rfl, ?_⟩) ?_ ?_
        rotate_left
        ·
         intro w'
         go_simp
         with_reducible rfl
        rotate_left
        ·
         simp only [Act.put, List.setIfInBounds_toArray, List.set_cons_zero, List.set_cons_succ, i64_w, i32_w]
         rfl
        refine pure_ (i := 24) (N := some 4) (v := ?_) (a' := ?_) zb6_23 rfl rfl (any_of HT_.out (by kernel_rfl)) (fun _ _ _ h => h) (Or.inl ⟨by rfl, ?_⟩) ?_ ?_
        rotate_left
        ·
         intro w'
         go_simp
         with_reducible rfl
        rotate_left
        ·
         simp only [Act.put, List.setIfInBounds_toArray, List.set_cons_zero, List.set_cons_succ, i64_w, i32_w]
         rfl
        refine done_ (done_of HT_.out (by kernel_rfl)) ?_
        try go_wp2
        go_ret
        exact ⟨by first | rfl | (simp [errW_none, errW_some] <;> rfl) | (simp [*, errW_none, errW_some] <;> rfl), by repeat (first | (with_reducible first | exact HB.out | apply below_alloc | apply pw_below_drewN | apply below_drew1 | refine below_set ?_ GE493.out | refine below_set ?_ GE494.out | refine below_set ?_ GE535.out) | exact HB.out | exact Below.refl _ _)⟩
      ·
       rw [if_neg c100] at H
       have c100b0 : (t502 == 0) = false := beq_eq_false_iff_ne.mpr c100
       have c100b1 : (t502 != 0) = true := bne_iff_ne.mpr c100
       replace H := Option.bind_eq_some_iff.mp H
       obtain ⟨t522, A1750, H⟩ := H
       replace H : (some (!t522)) = some r := H
       have A175 := Aside0.mk A1750
       clear A1750
       obtain rfl := Option.some.inj H
       have hnb176 := NB493_494.out
       have hnc176 := NB494_493.out
       have hcz177_0 : wc.cell? ⟨gb493, 0, none⟩ = some (.slice A0_0 l0_0.length c0_0) := (blk_cell BK493.out 0).trans rfl
       have hcz177_1 : wc.cell? ⟨gb493, 1, none⟩ = some (.slice A0_1 l0_1.length c0_1) := (blk_cell BK493.out 1).trans rfl
       have hcz177_2 : wc.cell? ⟨gb493, 2, none⟩ = some (.int .i64 a0_2) := (blk_cell BK493.out 2).trans rfl
       have hcz177_3 : wc.cell? ⟨gb493, 3, none⟩ = some (.int .i64 a0_3) := (blk_cell BK493.out 3).trans rfl
       have hcz177_4 : wc.cell? ⟨gb493, 4, none⟩ = some (.int .i64 a0_4) := (blk_cell BK493.out 4).trans rfl
       have hcz177_5 : wc.cell? ⟨gb493, 5, none⟩ = some (.int .i64 a0_5) := (blk_cell BK493.out 5).trans rfl
       have hfz177_0 := blk_frozen BK493.out 0
       have hfz177_1 := blk_frozen BK493.out 1
       have hfz177_2 := blk_frozen BK493.out 2
       have hfz177_3 := blk_frozen BK493.out 3
       have hfz177_4 := blk_frozen BK493.out 4
       have hfz177_5 := blk_frozen BK493.out 5
       go_wp2_with (first | ((with_reducible refine gate_callee (f := 13) rfl ?_); refine goesL_ (some 76) rfl rfl Try.func13 (by kernel_rfl) rfl #[.agg #[.slice A0_0 l0_0.length c0_0, .slice A0_1 l0_1.length c0_1, .int .i64 a0_2, .int .i64 a0_3, .int .i64 a0_4, .int .i64 a0_5]] rfl (by (try simp only [List.map_toArray, List.map_cons, List.map_nil]); first | done | rfl | (simp only [List.length_drop, List.length_take]; rfl)) ?_; (with_reducible refine (record_Right.calls _ _ l0_0 _ _ l0_1 a0_2 a0_3 a0_4 a0_5 t522 _ ?side1 ?side2 ?side3 ?side4 A175.out).mono ?_); (case side1 => repeat (first | exact (Kd.C_below HR0_0.out HB.out) | exact HR0_0.out | (with_reducible refine Kd.C_alloc ?_ _) | (with_reducible refine Kd.C_drewN ?_ _) | (with_reducible refine Kd.C_drew ?_))); (case side2 => exact HC0_0.out); (case side3 => repeat (first | exact (Kd.C_below HR0_1.out HB.out) | exact HR0_1.out | (with_reducible refine Kd.C_alloc ?_ _) | (with_reducible refine Kd.C_drewN ?_ _) | (with_reducible refine Kd.C_drew ?_))); (case side4 => exact HC0_1.out); rintro e w178 ⟨rfl, hb⟩; refine ⟨_, rfl, ?_⟩; have n0_ := Aside0.mk (Kd.R_below (by (with_reducible repeat (first | apply Kd.R_alloc | apply Kd.R_drewN | apply Kd.R_drew)); exact HO_5.out) hb); have n1_ := Aside0.mk (blk_below BK493.out hb); have n2_ := Aside0.mk (blk_below BK494.out hb); have n3_ := Aside0.mk (below_step (by repeat (first | (with_reducible first | exact HB.out | apply below_alloc | apply pw_below_drewN | apply below_drew1 | refine below_set ?_ GE493.out | refine below_set ?_ GE494.out) | exact HB.out | exact Below.refl _ _)) hb); clear HO_5; clear BK493; clear BK494; clear HB; have HO_5 := n0_; have BK493 := n1_; have BK494 := n2_; have HB := n3_; clear n0_ n1_ n2_ n3_; (try clear hb); (try clear hb2); (try clear hk); (try clear hi)))
       go_ret
       exact ⟨by first | rfl | (simp [errW_none, errW_some] <;> rfl) | (simp [*, errW_none, errW_some] <;> rfl), by repeat (first | (with_reducible first | exact HB.out | apply below_alloc | apply pw_below_drewN | apply below_drew1 | refine below_set ?_ GE493.out | refine below_set ?_ GE494.out) | exact HB.out | exact Below.refl _ _)⟩

/-- THE ONE PURE STATEMENT of terrierlaw13_RecordBack: yours. -/
def terrierlaw13_RecordBack.Pure : Prop := ∀ (l0_0 : List Int) (l0_1 : List Int) (a0_2 : Int) (a0_3 : Int) (a0_4 : Int) (a0_5 : Int) (l1_0 : List Int) (l1_1 : List Int) (a1_2 : Int) (a1_3 : Int) (a1_4 : Int) (a1_5 : Int), (ok24 (⟨l0_0, l0_1, a0_2, a0_3, a0_4, a0_5⟩ : S24)) → (ok24 (⟨l1_0, l1_1, a1_2, a1_3, a1_4, a1_5⟩ : S24)) → ∃ k, terrierlaw13_RecordBack.f k l0_0 l0_1 a0_2 a0_3 a0_4 a0_5 l1_0 l1_1 a1_2 a1_3 a1_4 a1_5 = some true
theorem terrierlaw13_RecordBack.walk (P : terrierlaw13_RecordBack.Pure) (A0_0 : Option Addr) (c0_0 : Nat) (l0_0 : List Int) (A0_1 : Option Addr) (c0_1 : Nat) (l0_1 : List Int) (a0_2 : Int) (a0_3 : Int) (a0_4 : Int) (a0_5 : Int) (A1_0 : Option Addr) (c1_0 : Nat) (l1_0 : List Int) (A1_1 : Option Addr) (c1_1 : Nat) (l1_1 : List Int) (a1_2 : Int) (a1_3 : Int) (a1_4 : Int) (a1_5 : Int) (w : World) (hk0 : ok24 (⟨l0_0, l0_1, a0_2, a0_3, a0_4, a0_5⟩ : S24)) (hr0_0 : Kd.C (Kd.int .u8) w A0_0 l0_0.length l0_0) (hc0_0 : l0_0.length ≤ c0_0) (hr0_1 : Kd.C (Kd.int .u8) w A0_1 l0_1.length l0_1) (hc0_1 : l0_1.length ≤ c0_1) (hk1 : ok24 (⟨l1_0, l1_1, a1_2, a1_3, a1_4, a1_5⟩ : S24)) (hr1_0 : Kd.C (Kd.int .u8) w A1_0 l1_0.length l1_0) (hc1_0 : l1_0.length ≤ c1_0) (hr1_1 : Kd.C (Kd.int .u8) w A1_1 l1_1.length l1_1) (hc1_1 : l1_1.length ≤ c1_1) :
  Calls Try.prog 6 #[.agg #[.slice A0_0 l0_0.length c0_0, .slice A0_1 l0_1.length c0_1, .int .i64 a0_2, .int .i64 a0_3, .int .i64 a0_4, .int .i64 a0_5], .agg #[.slice A1_0 l1_0.length c1_0, .slice A1_1 l1_1.length c1_1, .int .i64 a1_2, .int .i64 a1_3, .int .i64 a1_4, .int .i64 a1_5]] w fun e w' => e = .returned (.bool true) ∧ Below w.heap.size w w' := by
 obtain ⟨k, h⟩ := P l0_0 l0_1 a0_2 a0_3 a0_4 a0_5 l1_0 l1_1 a1_2 a1_3 a1_4 a1_5 hk0 hk1
 refine (terrierlaw13_RecordBack.calls k _ _ l0_0 _ _ l0_1 a0_2 a0_3 a0_4 a0_5 _ _ l1_0 _ _ l1_1 a1_2 a1_3 a1_4 a1_5 true w hr0_0 hc0_0 hr0_1 hc0_1 hr1_0 hc1_0 hr1_1 hc1_1 h).mono ?_
 rintro e w' ⟨rfl, hd⟩
 exact ⟨rfl, hd⟩

end Go.Proofs.Ytapmgeofbjgalaa.PS
