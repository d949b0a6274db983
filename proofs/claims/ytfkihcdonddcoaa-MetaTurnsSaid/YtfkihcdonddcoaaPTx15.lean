-- Written by wip/printx.py, a program of this work over the kit's print, for this claim.
import Derived.Test.YtfkihcdonddcoaaPTx0
import Derived.Test.YtfkihcdonddcoaaPTx1
import Derived.Test.YtfkihcdonddcoaaPTx6
import Derived.Test.YtfkihcdonddcoaaPTx12
import Derived.Test.YtfkihcdonddcoaaPTx13
import Derived.Test.YtfkihcdonddcoaaPTx14
namespace Go.Proofs.Ytfkihcdonddcoaa.PT
open Go.RowKit Go.Proofs.YtfkihcdonddcoaaW.PrintWords Go.Proofs.YtfkihcdonddcoaaW.PrintLast Go.Proofs.YtfkihcdonddcoaaW.PrintMore
attribute [local go_sem] max2_int min2_int max_two min_two max_three min_three max_four min_four   -- for this text's walks alone
attribute [local go_sem] Ext.pick_u8 Ext.pick_u32 Ext.pick_u64
set_option linter.unusedVariables false
set_option linter.unusedSimpArgs false

attribute [local go_sem high] eqA24


/-! ### terrierlaw05_MetaTurns: function 7 -/
mutual
def terrierlaw05_MetaTurns.j0 : Nat → Int → Bool → Int → Int → Int → Int → Int → Int → Int → Int → Int → Int → Int → Int → Option (Bool)
 | 0, _, _, _, _, _, _, _, _, _, _, _, _, _, _ => none
 | k + 1, x3, x29, x235000, x235001, x235002, x235003, x236000, x236001, x236002, x236003, x237000, x237001, x237002, x237003 => if x29 = true then ((terrierlaw05_lives.f k).bind fun t238 => (some t238)) else ((meta_Encode.f k (IntKind.u64.wrap (x236000 - 1)) x235001 x235002 x235003).bind fun bt239 => ((meta_Encode.f k x236000 x236001 x236002 x236003).bind fun bt243 => ((meta_Encode.f k (IntKind.u64.wrap (x236000 + 1)) x237001 x237002 x237003).bind fun bt247 => (if bt239.2 = 0 then (if bt243.2 = 0 then (terrierlaw05_MetaTurns.j1 k x3 bt239.1 bt243.1 bt247.1 (bt247.2 != 0) x236000 x236001 x236002 x236003 (IntKind.u64.wrap (x236000 + 1)) x237001 x237002 x237003) else (terrierlaw05_MetaTurns.j1 k x3 bt239.1 bt243.1 bt247.1 true x236000 x236001 x236002 x236003 (IntKind.u64.wrap (x236000 + 1)) x237001 x237002 x237003)) else (terrierlaw05_MetaTurns.j1 k x3 bt239.1 bt243.1 bt247.1 true x236000 x236001 x236002 x236003 (IntKind.u64.wrap (x236000 + 1)) x237001 x237002 x237003)))))
def terrierlaw05_MetaTurns.j1 : Nat → Int → List Int → List Int → List Int → Bool → Int → Int → Int → Int → Int → Int → Int → Int → Option (Bool)
 | 0, _, _, _, _, _, _, _, _, _, _, _, _, _ => none
 | k + 1, x3, x9, x11, x13, x63, x236000, x236001, x236002, x236003, x237000, x237001, x237002, x237003 => if x63 = true then (some true) else (if 0 ≤ (wrap64 (Int.tmod (IntKind.u64.wrap (x3)) 257)) then (if (wrap64 (Int.tmod (IntKind.u64.wrap (x3)) 257)) ≤ (x13.length : Int) then ((terrierref01_Twin.f (x13.take ((wrap64 (Int.tmod (IntKind.u64.wrap (x3)) 257)) : Int).toNat)).bind fun t255 => (if (wrap64 (Int.tmod (IntKind.u64.wrap (x3)) 257)) ≤ (x9.length : Int) then ((some (x9.drop ((wrap64 (Int.tmod (IntKind.u64.wrap (x3)) 257)) : Int).toNat : List Int)).bind fun y258 => (if t255.length + y258.length < 140737488355328 then ((some (t255 ++ y258 : List Int)).bind fun y262 => ((meta_Choose.f k y262 x11).bind fun bt265 => (if (Int.tmod x236000 2) = 0 then ((meta_Choose.f k x11 y262).bind fun bt271 => (terrierlaw05_MetaTurns.j2 k (wrap64 (Int.tmod (IntKind.u64.wrap (x3)) 257)) bt271.2.2.2.2 x236000 x236001 x236002 x236003 x237000 x237001 x237002 x237003 bt271.1 bt271.2.1 bt271.2.2.1 bt271.2.2.2.1)) else (terrierlaw05_MetaTurns.j2 k (wrap64 (Int.tmod (IntKind.u64.wrap (x3)) 257)) bt265.2.2.2.2 x236000 x236001 x236002 x236003 x237000 x237001 x237002 x237003 bt265.1 bt265.2.1 bt265.2.2.1 bt265.2.2.2.1)))) else (none))) else (none))) else (none)) else (none))
def terrierlaw05_MetaTurns.j2 : Nat → Int → Int → Int → Int → Int → Int → Int → Int → Int → Int → Int → Int → Int → Int → Option (Bool)
 | 0, _, _, _, _, _, _, _, _, _, _, _, _, _, _ => none
 | k + 1, x3, x17, x236000, x236001, x236002, x236003, x237000, x237001, x237002, x237003, x271000, x271001, x271002, x271003 => if x17 = 0 then (if (x271000 == x236000 && (x271001 == x236001 && (x271002 == x236002 && (x271003 == x236003)))) = true then (if x3 < 256 then (terrierlaw05_MetaTurns.j3 k true) else (terrierlaw05_MetaTurns.j3 k (x271000 == x237000 && (x271001 == x237001 && (x271002 == x237002 && (x271003 == x237003)))))) else (if (x271000 == x237000 && (x271001 == x237001 && (x271002 == x237002 && (x271003 == x237003)))) = true then (if x3 < 256 then (terrierlaw05_MetaTurns.j3 k true) else (terrierlaw05_MetaTurns.j3 k (x271000 == x237000 && (x271001 == x237001 && (x271002 == x237002 && (x271003 == x237003)))))) else (terrierlaw05_MetaTurns.j3 k false))) else (terrierlaw05_MetaTurns.j3 k false)
def terrierlaw05_MetaTurns.j3 : Nat → Bool → Option (Bool)
 | 0, _ => none
 | k + 1, x8 => some x8
end
def terrierlaw05_MetaTurns.f (k : Nat) (a0_0 : Int) (a0_1 : Int) (a0_2 : Int) (a0_3 : Int) (a1_0 : Int) (a1_1 : Int) (a1_2 : Int) (a1_3 : Int) (a2_0 : Int) (a2_1 : Int) (a2_2 : Int) (a2_3 : Int) (a3 : Int) : Option (Bool) := (terrierlaw05_lives.f k).bind fun t237 => (if t237 = true then (if a1_0 = 18446744073709551615 then (terrierlaw05_MetaTurns.j0 k a3 true a0_0 a0_1 a0_2 a0_3 a1_0 a1_1 a1_2 a1_3 a2_0 a2_1 a2_2 a2_3) else (terrierlaw05_MetaTurns.j0 k a3 (a1_0 == 0) a0_0 a0_1 a0_2 a0_3 a1_0 a1_1 a1_2 a1_3 a2_0 a2_1 a2_2 a2_3)) else (terrierlaw05_MetaTurns.j0 k a3 true a0_0 a0_1 a0_2 a0_3 a1_0 a1_1 a1_2 a1_3 a2_0 a2_1 a2_2 a2_3))
theorem terrierlaw05_MetaTurns.mono_l : ∀ k, (∀ y0 y1 y2 y3 y4 y5 y6 y7 y8 y9 y10 y11 y12 y13, LeO (terrierlaw05_MetaTurns.j0 k y0 y1 y2 y3 y4 y5 y6 y7 y8 y9 y10 y11 y12 y13) (terrierlaw05_MetaTurns.j0 (k + 1) y0 y1 y2 y3 y4 y5 y6 y7 y8 y9 y10 y11 y12 y13)) ∧ (∀ y0 y1 y2 y3 y4 y5 y6 y7 y8 y9 y10 y11 y12, LeO (terrierlaw05_MetaTurns.j1 k y0 y1 y2 y3 y4 y5 y6 y7 y8 y9 y10 y11 y12) (terrierlaw05_MetaTurns.j1 (k + 1) y0 y1 y2 y3 y4 y5 y6 y7 y8 y9 y10 y11 y12)) ∧ (∀ y0 y1 y2 y3 y4 y5 y6 y7 y8 y9 y10 y11 y12 y13, LeO (terrierlaw05_MetaTurns.j2 k y0 y1 y2 y3 y4 y5 y6 y7 y8 y9 y10 y11 y12 y13) (terrierlaw05_MetaTurns.j2 (k + 1) y0 y1 y2 y3 y4 y5 y6 y7 y8 y9 y10 y11 y12 y13)) ∧ (∀ y0, LeO (terrierlaw05_MetaTurns.j3 k y0) (terrierlaw05_MetaTurns.j3 (k + 1) y0))
 | 0 => ⟨fun _ _ _ _ _ _ _ _ _ _ _ _ _ _ r h => by simp [terrierlaw05_MetaTurns.j0] at h, fun _ _ _ _ _ _ _ _ _ _ _ _ _ r h => by simp [terrierlaw05_MetaTurns.j1] at h, fun _ _ _ _ _ _ _ _ _ _ _ _ _ _ r h => by simp [terrierlaw05_MetaTurns.j2] at h, fun _ r h => by simp [terrierlaw05_MetaTurns.j3] at h⟩
 | k + 1 => by
  obtain ⟨ih0, ih1, ih2, ih3⟩ := terrierlaw05_MetaTurns.mono_l k
  refine ⟨?_, ?_, ?_, ?_⟩
  ·
   intro y0 y1 y2 y3 y4 y5 y6 y7 y8 y9 y10 y11 y12 y13
   unfold terrierlaw05_MetaTurns.j0
   repeat' first
   | (with_reducible exact ih0 _ _ _ _ _ _ _ _ _ _ _ _ _ _)
   | (with_reducible exact ih1 _ _ _ _ _ _ _ _ _ _ _ _ _)
   | (with_reducible exact ih2 _ _ _ _ _ _ _ _ _ _ _ _ _ _)
   | (with_reducible exact ih3 _)
   | (with_reducible exact meta_Choose.mono _ _ _)
   | (with_reducible exact meta_Encode.mono _ _ _ _ _)
   | (with_reducible exact terrierlaw05_lives.mono _)
   | (with_reducible exact LeO.refl _)
   | (with_reducible exact LeO.none _)
   | (with_reducible refine LeO.ite ?_ ?_)
   | (with_reducible refine LeO.bind ?_ (fun _ => ?_))
   | exact ih0 _ _ _ _ _ _ _ _ _ _ _ _ _ _
   | exact ih1 _ _ _ _ _ _ _ _ _ _ _ _ _
   | exact ih2 _ _ _ _ _ _ _ _ _ _ _ _ _ _
   | exact ih3 _
   | exact meta_Choose.mono _ _ _
   | exact meta_Encode.mono _ _ _ _ _
   | exact terrierlaw05_lives.mono _
   | exact LeO.none _
   | refine LeO.ite ?_ ?_
   | refine LeO.bind ?_ (fun _ => ?_)
  ·
   intro y0 y1 y2 y3 y4 y5 y6 y7 y8 y9 y10 y11 y12
   unfold terrierlaw05_MetaTurns.j1
   repeat' first
   | (with_reducible exact ih0 _ _ _ _ _ _ _ _ _ _ _ _ _ _)
   | (with_reducible exact ih1 _ _ _ _ _ _ _ _ _ _ _ _ _)
   | (with_reducible exact ih2 _ _ _ _ _ _ _ _ _ _ _ _ _ _)
   | (with_reducible exact ih3 _)
   | (with_reducible exact meta_Choose.mono _ _ _)
   | (with_reducible exact meta_Encode.mono _ _ _ _ _)
   | (with_reducible exact terrierlaw05_lives.mono _)
   | (with_reducible exact LeO.refl _)
   | (with_reducible exact LeO.none _)
   | (with_reducible refine LeO.ite ?_ ?_)
   | (with_reducible refine LeO.bind ?_ (fun _ => ?_))
   | exact ih0 _ _ _ _ _ _ _ _ _ _ _ _ _ _
   | exact ih1 _ _ _ _ _ _ _ _ _ _ _ _ _
   | exact ih2 _ _ _ _ _ _ _ _ _ _ _ _ _ _
   | exact ih3 _
   | exact meta_Choose.mono _ _ _
   | exact meta_Encode.mono _ _ _ _ _
   | exact terrierlaw05_lives.mono _
   | exact LeO.none _
   | refine LeO.ite ?_ ?_
   | refine LeO.bind ?_ (fun _ => ?_)
  ·
   intro y0 y1 y2 y3 y4 y5 y6 y7 y8 y9 y10 y11 y12 y13
   unfold terrierlaw05_MetaTurns.j2
   repeat' first
   | (with_reducible exact ih0 _ _ _ _ _ _ _ _ _ _ _ _ _ _)
   | (with_reducible exact ih1 _ _ _ _ _ _ _ _ _ _ _ _ _)
   | (with_reducible exact ih2 _ _ _ _ _ _ _ _ _ _ _ _ _ _)
   | (with_reducible exact ih3 _)
   | (with_reducible exact meta_Choose.mono _ _ _)
   | (with_reducible exact meta_Encode.mono _ _ _ _ _)
   | (with_reducible exact terrierlaw05_lives.mono _)
   | (with_reducible exact LeO.refl _)
   | (with_reducible exact LeO.none _)
   | (with_reducible refine LeO.ite ?_ ?_)
   | (with_reducible refine LeO.bind ?_ (fun _ => ?_))
   | exact ih0 _ _ _ _ _ _ _ _ _ _ _ _ _ _
   | exact ih1 _ _ _ _ _ _ _ _ _ _ _ _ _
   | exact ih2 _ _ _ _ _ _ _ _ _ _ _ _ _ _
   | exact ih3 _
   | exact meta_Choose.mono _ _ _
   | exact meta_Encode.mono _ _ _ _ _
   | exact terrierlaw05_lives.mono _
   | exact LeO.none _
   | refine LeO.ite ?_ ?_
   | refine LeO.bind ?_ (fun _ => ?_)
  ·
   intro y0
   unfold terrierlaw05_MetaTurns.j3
   repeat' first
   | (with_reducible exact ih0 _ _ _ _ _ _ _ _ _ _ _ _ _ _)
   | (with_reducible exact ih1 _ _ _ _ _ _ _ _ _ _ _ _ _)
   | (with_reducible exact ih2 _ _ _ _ _ _ _ _ _ _ _ _ _ _)
   | (with_reducible exact ih3 _)
   | (with_reducible exact meta_Choose.mono _ _ _)
   | (with_reducible exact meta_Encode.mono _ _ _ _ _)
   | (with_reducible exact terrierlaw05_lives.mono _)
   | (with_reducible exact LeO.refl _)
   | (with_reducible exact LeO.none _)
   | (with_reducible refine LeO.ite ?_ ?_)
   | (with_reducible refine LeO.bind ?_ (fun _ => ?_))
   | exact ih0 _ _ _ _ _ _ _ _ _ _ _ _ _ _
   | exact ih1 _ _ _ _ _ _ _ _ _ _ _ _ _
   | exact ih2 _ _ _ _ _ _ _ _ _ _ _ _ _ _
   | exact ih3 _
   | exact meta_Choose.mono _ _ _
   | exact meta_Encode.mono _ _ _ _ _
   | exact terrierlaw05_lives.mono _
   | exact LeO.none _
   | refine LeO.ite ?_ ?_
   | refine LeO.bind ?_ (fun _ => ?_)
theorem terrierlaw05_MetaTurns.mono : ∀ a0 a1 a2 a3 a4 a5 a6 a7 a8 a9 a10 a11 a12 k, LeO (terrierlaw05_MetaTurns.f k a0 a1 a2 a3 a4 a5 a6 a7 a8 a9 a10 a11 a12) (terrierlaw05_MetaTurns.f (k + 1) a0 a1 a2 a3 a4 a5 a6 a7 a8 a9 a10 a11 a12) := by
 intro a0 a1 a2 a3 a4 a5 a6 a7 a8 a9 a10 a11 a12 k
 obtain ⟨ih0, ih1, ih2, ih3⟩ := terrierlaw05_MetaTurns.mono_l k
 unfold terrierlaw05_MetaTurns.f
 repeat' first
   | (with_reducible exact ih0 _ _ _ _ _ _ _ _ _ _ _ _ _ _)
   | (with_reducible exact ih1 _ _ _ _ _ _ _ _ _ _ _ _ _)
   | (with_reducible exact ih2 _ _ _ _ _ _ _ _ _ _ _ _ _ _)
   | (with_reducible exact ih3 _)
   | (with_reducible exact meta_Choose.mono _ _ _)
   | (with_reducible exact meta_Encode.mono _ _ _ _ _)
   | (with_reducible exact terrierlaw05_lives.mono _)
   | (with_reducible exact LeO.refl _)
   | (with_reducible exact LeO.none _)
   | (with_reducible refine LeO.ite ?_ ?_)
   | (with_reducible refine LeO.bind ?_ (fun _ => ?_))
   | exact ih0 _ _ _ _ _ _ _ _ _ _ _ _ _ _
   | exact ih1 _ _ _ _ _ _ _ _ _ _ _ _ _
   | exact ih2 _ _ _ _ _ _ _ _ _ _ _ _ _ _
   | exact ih3 _
   | exact meta_Choose.mono _ _ _
   | exact meta_Encode.mono _ _ _ _ _
   | exact terrierlaw05_lives.mono _
   | exact LeO.none _
   | refine LeO.ite ?_ ?_
   | refine LeO.bind ?_ (fun _ => ?_)
def terrierlaw05_MetaTurns.T11 : Bool × List (List Nat × List Nat) := (true, [([], []), ([], []), ([0, 1], [0, 1]), ([2], [2]), ([], []), ([], []), ([4, 5], [4, 5]), ([3, 6, 3], [3, 6]), ([7, 7, 0, 1, 2, 3, 4, 5, 6, 7], [7])])
def terrierlaw05_MetaTurns.B11 : List Nat := [0, 0, 3, 7, 0, 0, 48, 127, 255]
theorem terrierlaw05_MetaTurns.tab11 : rtab .any (opsOf Try.f7 11) = terrierlaw05_MetaTurns.T11 := by kernel_rfl
theorem terrierlaw05_MetaTurns.bits11 : waitsOk terrierlaw05_MetaTurns.T11.2 terrierlaw05_MetaTurns.B11 = true := by kernel_rfl
set_option maxHeartbeats 8000000 in
set_option maxRecDepth 100000 in
theorem terrierlaw05_MetaTurns.calls (k : Nat) (a0_0 : Int) (a0_1 : Int) (a0_2 : Int) (a0_3 : Int) (a1_0 : Int) (a1_1 : Int) (a1_2 : Int) (a1_3 : Int) (a2_0 : Int) (a2_1 : Int) (a2_2 : Int) (a2_3 : Int) (a3 : Int) (r : Bool) (w : World) (h : terrierlaw05_MetaTurns.f k a0_0 a0_1 a0_2 a0_3 a1_0 a1_1 a1_2 a1_3 a2_0 a2_1 a2_2 a2_3 a3 = some r) :
  Calls Try.prog 7 #[.agg #[.int .u64 a0_0, .int .i64 a0_1, .int .i64 a0_2, .int .i64 a0_3], .agg #[.int .u64 a1_0, .int .i64 a1_1, .int .i64 a1_2, .int .i64 a1_3], .agg #[.int .u64 a2_0, .int .i64 a2_1, .int .i64 a2_2, .int .i64 a2_3], .int .i64 a3] w fun e w' => e = .returned (.bool r) ∧ Below w.heap.size w w' := by
 have hu24 := Try.underlying24
 have HB := Ext.a (Below.refl w.heap.size w)
 have H : ((terrierlaw05_lives.f k).bind fun t237 => (if t237 = true then (if a1_0 = 18446744073709551615 then (terrierlaw05_MetaTurns.j0 k a3 true a0_0 a0_1 a0_2 a0_3 a1_0 a1_1 a1_2 a1_3 a2_0 a2_1 a2_2 a2_3) else (terrierlaw05_MetaTurns.j0 k a3 (a1_0 == 0) a0_0 a0_1 a0_2 a0_3 a1_0 a1_1 a1_2 a1_3 a2_0 a2_1 a2_2 a2_3)) else (terrierlaw05_MetaTurns.j0 k a3 true a0_0 a0_1 a0_2 a0_3 a1_0 a1_1 a1_2 a1_3 a2_0 a2_1 a2_2 a2_3))) = some r := h
 clear h
 have HC5 := Aside0.mk H
 clear H
 go_enter Try.func7, Try.ntmps7
 go_upto_region 1 with (first | ((with_reducible refine gate_dst (N := 4) rfl ?_); refine box_event ?hg (N := 4) ?hd (cs := #[.int .u64 a0_0, .int .i64 a0_1, .int .i64 a0_2, .int .i64 a0_3]) (t := 24) ?hr ?_; (case hd => rfl); (case hg => rfl); (case hr => first | (go_simp; done) | (go_simp; rfl)); intro gb234 hg w6 hbox hb; have n0_ := Ext.a (below_step (Ext.nB HB.out) hb); have n1_ := Ext.a (hbox); have n2_ := Ext.a ((by rw [hg]; exact (below_size (Ext.nB HB.out)) : w.heap.size ≤ gb234)); have n3_ := Ext.a ((by rw [hg]; exact (below_size (Ext.nB HB.out)) : w.heap.size ≤ gb234)); clear HB; have HB := n0_; have BK234 := n1_; have GW234 := n2_; have GE234 := n3_; clear n0_ n1_ n2_ n3_; clear hb hbox hg) | ((with_reducible refine gate_dst (N := 5) rfl ?_); refine box_event ?hg (N := 5) ?hd (cs := #[.int .u64 a1_0, .int .i64 a1_1, .int .i64 a1_2, .int .i64 a1_3]) (t := 24) ?hr ?_; (case hd => rfl); (case hg => rfl); (case hr => first | (go_simp; done) | (go_simp; rfl)); intro gb235 hg w7 hbox hb; have n0_ := Ext.a (blk_below BK234.out hb); have n1_ := Ext.a (below_step (by repeat (first | (with_reducible first | exact HB.out | apply Ext.ba | apply Ext.bn | apply Ext.bd | refine Ext.bs ?_ GE234.out) | exact HB.out | exact .refl _ _)) hb); have n2_ := Ext.a (hbox); have n3_ := Ext.a ((by rw [hg]; exact (below_size (by repeat (first | (with_reducible first | exact HB.out | apply Ext.ba | apply Ext.bn | apply Ext.bd | refine Ext.bs ?_ GE234.out) | exact HB.out | exact .refl _ _))) : w.heap.size ≤ gb235)); have n4_ := Ext.a ((by rw [hg]; exact (below_size (by repeat (first | (with_reducible first | exact HB.out | apply Ext.ba | apply Ext.bn | apply Ext.bd | refine Ext.bs ?_ GE234.out) | exact HB.out | exact .refl _ _))) : w.heap.size ≤ gb235)); have n5_ := Ext.a ((by rw [hg]; exact Nat.ne_of_lt (blk_lt BK234.out) : gb234 ≠ gb235)); have n6_ := Ext.a ((by rw [hg]; exact Nat.ne_of_gt (blk_lt BK234.out) : gb235 ≠ gb234)); clear BK234 HB; have BK234 := n0_; have HB := n1_; have BK235 := n2_; have GW235 := n3_; have GE235 := n4_; have NB234_235 := n5_; have NB235_234 := n6_; clear n0_ n1_ n2_ n3_ n4_ n5_ n6_; clear hb hbox hg) | ((with_reducible refine gate_dst (N := 6) rfl ?_); refine box_event ?hg (N := 6) ?hd (cs := #[.int .u64 a2_0, .int .i64 a2_1, .int .i64 a2_2, .int .i64 a2_3]) (t := 24) ?hr ?_; (case hd => rfl); (case hg => rfl); (case hr => first | (go_simp; done) | (go_simp; rfl)); intro gb236 hg w8 hbox hb; have n0_ := Ext.a (blk_below BK234.out hb); have n1_ := Ext.a (blk_below BK235.out hb); have n2_ := Ext.a (below_step (by repeat (first | (with_reducible first | exact HB.out | apply Ext.ba | apply Ext.bn | apply Ext.bd | refine Ext.bs ?_ GE234.out | refine Ext.bs ?_ GE235.out) | exact HB.out | exact .refl _ _)) hb); have n3_ := Ext.a (hbox); have n4_ := Ext.a ((by rw [hg]; exact (below_size (by repeat (first | (with_reducible first | exact HB.out | apply Ext.ba | apply Ext.bn | apply Ext.bd | refine Ext.bs ?_ GE234.out | refine Ext.bs ?_ GE235.out) | exact HB.out | exact .refl _ _))) : w.heap.size ≤ gb236)); have n5_ := Ext.a ((by rw [hg]; exact (below_size (by repeat (first | (with_reducible first | exact HB.out | apply Ext.ba | apply Ext.bn | apply Ext.bd | refine Ext.bs ?_ GE234.out | refine Ext.bs ?_ GE235.out) | exact HB.out | exact .refl _ _))) : w.heap.size ≤ gb236)); have n6_ := Ext.a ((by rw [hg]; exact Nat.ne_of_lt (blk_lt BK234.out) : gb234 ≠ gb236)); have n7_ := Ext.a ((by rw [hg]; exact Nat.ne_of_gt (blk_lt BK234.out) : gb236 ≠ gb234)); have n8_ := Ext.a ((by rw [hg]; exact Nat.ne_of_lt (blk_lt BK235.out) : gb235 ≠ gb236)); have n9_ := Ext.a ((by rw [hg]; exact Nat.ne_of_gt (blk_lt BK235.out) : gb236 ≠ gb235)); clear BK234 BK235 HB; have BK234 := n0_; have BK235 := n1_; have HB := n2_; have BK236 := n3_; have GW236 := n4_; have GE236 := n5_; have NB234_236 := n6_; have NB236_234 := n7_; have NB235_236 := n8_; have NB236_235 := n9_; clear n0_ n1_ n2_ n3_ n4_ n5_ n6_ n7_ n8_ n9_; clear hb hbox hg))
 (try simp only [Act.put, Ext.sb, Ext.sz, Ext.ss])
 go_cut [29] (fun v29 wc => ∃ (kq : Nat) (x29_4 : Bool), v29 = .bool x29_4 ∧ Aside0 (terrierlaw05_MetaTurns.j0 kq a3 x29_4 a0_0 a0_1 a0_2 a0_3 a1_0 a1_1 a1_2 a1_3 a2_0 a2_1 a2_2 a2_3 = some r) ∧ Aside0 (kq ≤ k) ∧ Aside0 (wc.heap[gb234]? = some (.cells #[.int .u64 a0_0, .int .i64 a0_1, .int .i64 a0_2, .int .i64 a0_3] 24 (0, 0))) ∧ Aside0 (wc.heap[gb235]? = some (.cells #[.int .u64 a1_0, .int .i64 a1_1, .int .i64 a1_2, .int .i64 a1_3] 24 (0, 0))) ∧ Aside0 (wc.heap[gb236]? = some (.cells #[.int .u64 a2_0, .int .i64 a2_1, .int .i64 a2_2, .int .i64 a2_3] 24 (0, 0))) ∧ Aside0 (Below w.heap.size w wc))
 case first =>
  have H := HC5.out
  clear HC5
  replace H := Option.bind_eq_some_iff.mp H
  obtain ⟨t237, A90, H⟩ := H
  replace H : (if t237 = true then (if a1_0 = 18446744073709551615 then (terrierlaw05_MetaTurns.j0 k a3 true a0_0 a0_1 a0_2 a0_3 a1_0 a1_1 a1_2 a1_3 a2_0 a2_1 a2_2 a2_3) else (terrierlaw05_MetaTurns.j0 k a3 (a1_0 == 0) a0_0 a0_1 a0_2 a0_3 a1_0 a1_1 a1_2 a1_3 a2_0 a2_1 a2_2 a2_3)) else (terrierlaw05_MetaTurns.j0 k a3 true a0_0 a0_1 a0_2 a0_3 a1_0 a1_1 a1_2 a1_3 a2_0 a2_1 a2_2 a2_3)) = some r := H
  have A9 := Aside0.mk A90
  clear A90
  by_cases c10 : t237 = true
  ·
   subst c10
   have H1 : (if a1_0 = 18446744073709551615 then (terrierlaw05_MetaTurns.j0 k a3 true a0_0 a0_1 a0_2 a0_3 a1_0 a1_1 a1_2 a1_3 a2_0 a2_1 a2_2 a2_3) else (terrierlaw05_MetaTurns.j0 k a3 (a1_0 == 0) a0_0 a0_1 a0_2 a0_3 a1_0 a1_1 a1_2 a1_3 a2_0 a2_1 a2_2 a2_3)) = some r := by rw [if_pos rfl] at H; exact H
   clear H
   have H := H1
   clear H1
   by_cases c11 : a1_0 = 18446744073709551615
   ·
    rw [if_pos c11] at H
    have c11b0 : (a1_0 == 18446744073709551615) = true := beq_iff_eq.mpr c11
    have c11b1 : (a1_0 != 18446744073709551615) = false := bne_eq_false_iff_eq.mpr c11
    clear c11
    (first | rw [c11b0] | (simp only [i64_w, i32_w]; rw [c11b0]) | skip)
    have H' := Aside0.mk H
    clear H
    go_wp2_with (first | ((with_reducible refine gate_callee (f := 9) rfl ?_); refine goesL_ (some 18) rfl rfl Try.func9 (by kernel_rfl) rfl #[] rfl (by (try simp only [List.map_toArray, List.map_cons, List.map_nil]); first | done | rfl | (simp only [List.length_drop, List.length_take]; rfl)) ?_; (with_reducible refine (terrierlaw05_lives.calls k  true _ A9.out).mono ?_); rintro e w12 ⟨rfl, hb⟩; refine ⟨_, rfl, ?_⟩; have n0_ := Ext.a (blk_below BK234.out hb); have n1_ := Ext.a (blk_below BK235.out hb); have n2_ := Ext.a (blk_below BK236.out hb); have n3_ := Ext.a (below_step (by repeat (first | (with_reducible first | exact HB.out | apply Ext.ba | apply Ext.bn | apply Ext.bd | refine Ext.bs ?_ GE234.out | refine Ext.bs ?_ GE235.out | refine Ext.bs ?_ GE236.out) | exact HB.out | exact .refl _ _)) hb); clear BK234 BK235 BK236 HB; have BK234 := n0_; have BK235 := n1_; have BK236 := n2_; have HB := n3_; clear n0_ n1_ n2_ n3_; (try clear hb); (try clear hb2); (try clear hk); (try clear hi); have hnb13 := NB235_234.out; have hnc13 := NB234_235.out; have hnb14 := NB235_236.out; have hnc14 := NB236_235.out; obtain ⟨hcz15_0, hcz15_1, hcz15_2, hcz15_3⟩ := Ext.cells4 BK235.out; obtain ⟨hfz15_0, hfz15_1, hfz15_2, hfz15_3⟩ := Ext.froz4 BK235.out))
    go_meet
    case rel => exact ⟨_, (true), (by first | rfl | (simp; done) | (simp [*]; done)), H', ⟨by first | omega | exact Nat.le_refl _⟩, ⟨by exact BK234.out⟩, ⟨by exact BK235.out⟩, ⟨by exact BK236.out⟩, ⟨by repeat (first | (with_reducible first | exact HB.out | apply Ext.ba | apply Ext.bn | apply Ext.bd | refine Ext.bs ?_ GE234.out | refine Ext.bs ?_ GE235.out | refine Ext.bs ?_ GE236.out) | exact HB.out | exact .refl _ _)⟩⟩
   ·
    rw [if_neg c11] at H
    have c11b0 : (a1_0 == 18446744073709551615) = false := beq_eq_false_iff_ne.mpr c11
    have c11b1 : (a1_0 != 18446744073709551615) = true := bne_iff_ne.mpr c11
    (first | rw [c11b0] | (simp only [i64_w, i32_w]; rw [c11b0]) | skip)
    have H' := Aside0.mk H
    clear H
    go_wp2_with (first | ((with_reducible refine gate_callee (f := 9) rfl ?_); refine goesL_ (some 18) rfl rfl Try.func9 (by kernel_rfl) rfl #[] rfl (by (try simp only [List.map_toArray, List.map_cons, List.map_nil]); first | done | rfl | (simp only [List.length_drop, List.length_take]; rfl)) ?_; (with_reducible refine (terrierlaw05_lives.calls k  true _ A9.out).mono ?_); rintro e w16 ⟨rfl, hb⟩; refine ⟨_, rfl, ?_⟩; have n0_ := Ext.a (blk_below BK234.out hb); have n1_ := Ext.a (blk_below BK235.out hb); have n2_ := Ext.a (blk_below BK236.out hb); have n3_ := Ext.a (below_step (by repeat (first | (with_reducible first | exact HB.out | apply Ext.ba | apply Ext.bn | apply Ext.bd | refine Ext.bs ?_ GE234.out | refine Ext.bs ?_ GE235.out | refine Ext.bs ?_ GE236.out) | exact HB.out | exact .refl _ _)) hb); clear BK234 BK235 BK236 HB; have BK234 := n0_; have BK235 := n1_; have BK236 := n2_; have HB := n3_; clear n0_ n1_ n2_ n3_; (try clear hb); (try clear hb2); (try clear hk); (try clear hi); have hnb17 := NB235_234.out; have hnc17 := NB234_235.out; have hnb18 := NB235_236.out; have hnc18 := NB236_235.out; obtain ⟨hcz19_0, hcz19_1, hcz19_2, hcz19_3⟩ := Ext.cells4 BK235.out; obtain ⟨hfz19_0, hfz19_1, hfz19_2, hfz19_3⟩ := Ext.froz4 BK235.out))
    go_meet
    case rel => exact ⟨_, ((a1_0 == 0)), (by first | rfl | (simp; done) | (simp [*]; done)), H', ⟨by first | omega | exact Nat.le_refl _⟩, ⟨by exact BK234.out⟩, ⟨by exact BK235.out⟩, ⟨by exact BK236.out⟩, ⟨by repeat (first | (with_reducible first | exact HB.out | apply Ext.ba | apply Ext.bn | apply Ext.bd | refine Ext.bs ?_ GE234.out | refine Ext.bs ?_ GE235.out | refine Ext.bs ?_ GE236.out) | exact HB.out | exact .refl _ _)⟩⟩
  ·
   replace c10 := Bool.eq_false_iff.mpr c10
   subst c10
   have H1 : (terrierlaw05_MetaTurns.j0 k a3 true a0_0 a0_1 a0_2 a0_3 a1_0 a1_1 a1_2 a1_3 a2_0 a2_1 a2_2 a2_3) = some r := by rw [if_neg (show ¬ (false = true) by decide)] at H; exact H
   clear H
   have H := H1
   clear H1
   have H' := Aside0.mk H
   clear H
   go_wp2_with (first | ((with_reducible refine gate_callee (f := 9) rfl ?_); refine goesL_ (some 18) rfl rfl Try.func9 (by kernel_rfl) rfl #[] rfl (by (try simp only [List.map_toArray, List.map_cons, List.map_nil]); first | done | rfl | (simp only [List.length_drop, List.length_take]; rfl)) ?_; (with_reducible refine (terrierlaw05_lives.calls k  false _ A9.out).mono ?_); rintro e w20 ⟨rfl, hb⟩; refine ⟨_, rfl, ?_⟩; have n0_ := Ext.a (blk_below BK234.out hb); have n1_ := Ext.a (blk_below BK235.out hb); have n2_ := Ext.a (blk_below BK236.out hb); have n3_ := Ext.a (below_step (by repeat (first | (with_reducible first | exact HB.out | apply Ext.ba | apply Ext.bn | apply Ext.bd | refine Ext.bs ?_ GE234.out | refine Ext.bs ?_ GE235.out | refine Ext.bs ?_ GE236.out) | exact HB.out | exact .refl _ _)) hb); clear BK234 BK235 BK236 HB; have BK234 := n0_; have BK235 := n1_; have BK236 := n2_; have HB := n3_; clear n0_ n1_ n2_ n3_; (try clear hb); (try clear hb2); (try clear hk); (try clear hi)))
   go_meet
   case rel => exact ⟨_, (true), (by first | rfl | (simp; done) | (simp [*]; done)), H', ⟨by first | omega | exact Nat.le_refl _⟩, ⟨by exact BK234.out⟩, ⟨by exact BK235.out⟩, ⟨by exact BK236.out⟩, ⟨by repeat (first | (with_reducible first | exact HB.out | apply Ext.ba | apply Ext.bn | apply Ext.bd | refine Ext.bs ?_ GE234.out | refine Ext.bs ?_ GE235.out | refine Ext.bs ?_ GE236.out) | exact HB.out | exact .refl _ _)⟩⟩
 case rest =>
  clear HC5
  try clear c1
  try clear p2
  try clear c7
  try clear c9
  try clear c10
  try clear c11
  try clear c11b0
  try clear c11b1
  try clear c13
  try clear c14
  try clear c17
  try clear c18
  try clear hcz15_0
  try clear hcz15_1
  try clear hcz15_2
  try clear hcz15_3
  try clear hcz19_0
  try clear hcz19_1
  try clear hcz19_2
  try clear hcz19_3
  try clear hfz15_0
  try clear hfz15_1
  try clear hfz15_2
  try clear hfz15_3
  try clear hfz19_0
  try clear hfz19_1
  try clear hfz19_2
  try clear hfz19_3
  obtain ⟨kq, x29_4, rfl, HA, HJ4, BK234, BK235, BK236, HB⟩ := hcut
  cases kq with
  | zero => exact absurd HA.out (by simp [terrierlaw05_MetaTurns.j0])
  | succ kj4 =>
   have H := HA.out
   clear HA
   simp only [terrierlaw05_MetaTurns.j0] at H
   by_cases c21 : x29_4 = true
   ·
    subst c21
    have H1 : ((terrierlaw05_lives.f kj4).bind fun t238 => (some t238)) = some r := by rw [if_pos rfl] at H; exact H
    clear H
    have H := H1
    clear H1
    replace H := Option.bind_eq_some_iff.mp H
    obtain ⟨t238, A220, H⟩ := H
    replace H : (some t238) = some r := H
    have A22 := Aside0.mk A220
    clear A220
    obtain rfl := Option.some.inj H
    go_wp2_with (first | ((with_reducible refine gate_callee (f := 9) rfl ?_); refine goesL_ (some 30) rfl rfl Try.func9 (by kernel_rfl) rfl #[] rfl (by (try simp only [List.map_toArray, List.map_cons, List.map_nil]); first | done | rfl | (simp only [List.length_drop, List.length_take]; rfl)) ?_; (with_reducible refine (terrierlaw05_lives.calls kj4  t238 _ A22.out).mono ?_); rintro e w23 ⟨rfl, hb⟩; refine ⟨_, rfl, ?_⟩; have n0_ := Ext.a (blk_below BK234.out hb); have n1_ := Ext.a (blk_below BK235.out hb); have n2_ := Ext.a (blk_below BK236.out hb); have n3_ := Ext.a (below_step (by repeat (first | (with_reducible first | exact HB.out | apply Ext.ba | apply Ext.bn | apply Ext.bd | refine Ext.bs ?_ GE234.out | refine Ext.bs ?_ GE235.out | refine Ext.bs ?_ GE236.out) | exact HB.out | exact .refl _ _)) hb); clear BK234 BK235 BK236 HB; have BK234 := n0_; have BK235 := n1_; have BK236 := n2_; have HB := n3_; clear n0_ n1_ n2_ n3_; (try clear hb); (try clear hb2); (try clear hk); (try clear hi)))
    go_ret
    exact ⟨by first | rfl | (simp [errW_none, errW_some] <;> rfl) | (simp [*, errW_none, errW_some] <;> rfl), by repeat (first | (with_reducible first | exact HB.out | apply Ext.ba | apply Ext.bn | apply Ext.bd | refine Ext.bs ?_ GE234.out | refine Ext.bs ?_ GE235.out | refine Ext.bs ?_ GE236.out) | exact HB.out | exact .refl _ _)⟩
   ·
    replace c21 := Bool.eq_false_iff.mpr c21
    subst c21
    have H1 : ((meta_Encode.f kj4 (IntKind.u64.wrap (a1_0 - 1)) a0_1 a0_2 a0_3).bind fun bt239 => ((meta_Encode.f kj4 a1_0 a1_1 a1_2 a1_3).bind fun bt243 => ((meta_Encode.f kj4 (IntKind.u64.wrap (a1_0 + 1)) a2_1 a2_2 a2_3).bind fun bt247 => (if bt239.2 = 0 then (if bt243.2 = 0 then (terrierlaw05_MetaTurns.j1 kj4 a3 bt239.1 bt243.1 bt247.1 (bt247.2 != 0) a1_0 a1_1 a1_2 a1_3 (IntKind.u64.wrap (a1_0 + 1)) a2_1 a2_2 a2_3) else (terrierlaw05_MetaTurns.j1 kj4 a3 bt239.1 bt243.1 bt247.1 true a1_0 a1_1 a1_2 a1_3 (IntKind.u64.wrap (a1_0 + 1)) a2_1 a2_2 a2_3)) else (terrierlaw05_MetaTurns.j1 kj4 a3 bt239.1 bt243.1 bt247.1 true a1_0 a1_1 a1_2 a1_3 (IntKind.u64.wrap (a1_0 + 1)) a2_1 a2_2 a2_3))))) = some r := by rw [if_neg (show ¬ (false = true) by decide)] at H; exact H
    clear H
    have H := H1
    clear H1
    replace H := Option.bind_eq_some_iff.mp H
    obtain ⟨⟨t239, t242⟩, A240, H⟩ := H
    replace H : ((meta_Encode.f kj4 a1_0 a1_1 a1_2 a1_3).bind fun bt243 => ((meta_Encode.f kj4 (IntKind.u64.wrap (a1_0 + 1)) a2_1 a2_2 a2_3).bind fun bt247 => (if t242 = 0 then (if bt243.2 = 0 then (terrierlaw05_MetaTurns.j1 kj4 a3 t239 bt243.1 bt247.1 (bt247.2 != 0) a1_0 a1_1 a1_2 a1_3 (IntKind.u64.wrap (a1_0 + 1)) a2_1 a2_2 a2_3) else (terrierlaw05_MetaTurns.j1 kj4 a3 t239 bt243.1 bt247.1 true a1_0 a1_1 a1_2 a1_3 (IntKind.u64.wrap (a1_0 + 1)) a2_1 a2_2 a2_3)) else (terrierlaw05_MetaTurns.j1 kj4 a3 t239 bt243.1 bt247.1 true a1_0 a1_1 a1_2 a1_3 (IntKind.u64.wrap (a1_0 + 1)) a2_1 a2_2 a2_3)))) = some r := H
    have A24 := Aside0.mk A240
    clear A240
    replace H := Option.bind_eq_some_iff.mp H
    obtain ⟨⟨t243, t246⟩, A250, H⟩ := H
    replace H : ((meta_Encode.f kj4 (IntKind.u64.wrap (a1_0 + 1)) a2_1 a2_2 a2_3).bind fun bt247 => (if t242 = 0 then (if t246 = 0 then (terrierlaw05_MetaTurns.j1 kj4 a3 t239 t243 bt247.1 (bt247.2 != 0) a1_0 a1_1 a1_2 a1_3 (IntKind.u64.wrap (a1_0 + 1)) a2_1 a2_2 a2_3) else (terrierlaw05_MetaTurns.j1 kj4 a3 t239 t243 bt247.1 true a1_0 a1_1 a1_2 a1_3 (IntKind.u64.wrap (a1_0 + 1)) a2_1 a2_2 a2_3)) else (terrierlaw05_MetaTurns.j1 kj4 a3 t239 t243 bt247.1 true a1_0 a1_1 a1_2 a1_3 (IntKind.u64.wrap (a1_0 + 1)) a2_1 a2_2 a2_3))) = some r := H
    have A25 := Aside0.mk A250
    clear A250
    replace H := Option.bind_eq_some_iff.mp H
    obtain ⟨⟨t247, t250⟩, A260, H⟩ := H
    replace H : (if t242 = 0 then (if t246 = 0 then (terrierlaw05_MetaTurns.j1 kj4 a3 t239 t243 t247 (t250 != 0) a1_0 a1_1 a1_2 a1_3 (IntKind.u64.wrap (a1_0 + 1)) a2_1 a2_2 a2_3) else (terrierlaw05_MetaTurns.j1 kj4 a3 t239 t243 t247 true a1_0 a1_1 a1_2 a1_3 (IntKind.u64.wrap (a1_0 + 1)) a2_1 a2_2 a2_3)) else (terrierlaw05_MetaTurns.j1 kj4 a3 t239 t243 t247 true a1_0 a1_1 a1_2 a1_3 (IntKind.u64.wrap (a1_0 + 1)) a2_1 a2_2 a2_3)) = some r := H
    have A26 := Aside0.mk A260
    clear A260
    have HC27 := Aside0.mk H
    clear H
    have hnb28 := NB235_234.out
    have hnc28 := NB234_235.out
    have hnb29 := NB235_236.out
    have hnc29 := NB236_235.out
    have hcz30_0 : wc.cell? ⟨gb235, 0, none⟩ = some (.int .u64 a1_0) := (blk_cell BK235.out 0).trans rfl
    have hcz30_1 : wc.cell? ⟨gb235, 1, none⟩ = some (.int .i64 a1_1) := (blk_cell BK235.out 1).trans rfl
    have hcz30_2 : wc.cell? ⟨gb235, 2, none⟩ = some (.int .i64 a1_2) := (blk_cell BK235.out 2).trans rfl
    have hcz30_3 : wc.cell? ⟨gb235, 3, none⟩ = some (.int .i64 a1_3) := (blk_cell BK235.out 3).trans rfl
    have hfz30_0 := blk_frozen BK235.out 0
    have hfz30_1 := blk_frozen BK235.out 1
    have hfz30_2 := blk_frozen BK235.out 2
    have hfz30_3 := blk_frozen BK235.out 3
    have hnb31 := NB234_236.out
    have hnc31 := NB236_234.out
    have hcz32_0 : wc.cell? ⟨gb234, 0, none⟩ = some (.int .u64 a0_0) := (blk_cell BK234.out 0).trans rfl
    have hcz32_1 : wc.cell? ⟨gb234, 1, none⟩ = some (.int .i64 a0_1) := (blk_cell BK234.out 1).trans rfl
    have hcz32_2 : wc.cell? ⟨gb234, 2, none⟩ = some (.int .i64 a0_2) := (blk_cell BK234.out 2).trans rfl
    have hcz32_3 : wc.cell? ⟨gb234, 3, none⟩ = some (.int .i64 a0_3) := (blk_cell BK234.out 3).trans rfl
    have hfz32_0 := blk_frozen BK234.out 0
    have hfz32_1 := blk_frozen BK234.out 1
    have hfz32_2 := blk_frozen BK234.out 2
    have hfz32_3 := blk_frozen BK234.out 3
    have hcz33_0 : wc.cell? ⟨gb236, 0, none⟩ = some (.int .u64 a2_0) := (blk_cell BK236.out 0).trans rfl
    have hcz33_1 : wc.cell? ⟨gb236, 1, none⟩ = some (.int .i64 a2_1) := (blk_cell BK236.out 1).trans rfl
    have hcz33_2 : wc.cell? ⟨gb236, 2, none⟩ = some (.int .i64 a2_2) := (blk_cell BK236.out 2).trans rfl
    have hcz33_3 : wc.cell? ⟨gb236, 3, none⟩ = some (.int .i64 a2_3) := (blk_cell BK236.out 3).trans rfl
    have hfz33_0 := blk_frozen BK236.out 0
    have hfz33_1 := blk_frozen BK236.out 1
    have hfz33_2 := blk_frozen BK236.out 2
    have hfz33_3 := blk_frozen BK236.out 3
    go_upto_region 8 with (first | ((with_reducible refine gate_callee (f := 10) rfl ?_); refine goesL_ (some 41) rfl rfl Try.func10 (by kernel_rfl) rfl #[.agg #[.int .u64 (IntKind.u64.wrap (a1_0 - 1)), .int .i64 a0_1, .int .i64 a0_2, .int .i64 a0_3]] rfl (by (try simp only [List.map_toArray, List.map_cons, List.map_nil]); first | done | rfl | (simp only [List.length_drop, List.length_take]; rfl)) ?_; (with_reducible refine (meta_Encode.calls kj4 (IntKind.u64.wrap (a1_0 - 1)) a0_1 a0_2 a0_3 t239 t242 _ A24.out).mono ?_); rintro e w34 ⟨v240, rfl, ho0, hb⟩; refine ⟨_, rfl, ?_⟩; have n0_ := Ext.a (Kd.R_lower ho0 (below_size (by repeat (first | (with_reducible first | exact HB.out | apply Ext.ba | apply Ext.bn | apply Ext.bd | refine Ext.bs ?_ GE234.out | refine Ext.bs ?_ GE235.out | refine Ext.bs ?_ GE236.out) | exact HB.out | exact .refl _ _)))); have n1_ := Ext.a (blk_below (g := gb234) (o := .cells #[.int .u64 (IntKind.u64.wrap (a1_0 - 1)), .int .i64 a0_1, .int .i64 a0_2, .int .i64 a0_3] 24 (0, 0)) (by refine blk_far ?_ NB234_236.out _; refine blk_put (cs := #[.int .u64 a0_0, .int .i64 a0_1, .int .i64 a0_2, .int .i64 a0_3]) ?_ 0 _ rfl; exact BK234.out) hb); have n2_ := Ext.a (blk_below (g := gb235) (o := .cells #[.int .u64 a1_0, .int .i64 a1_1, .int .i64 a1_2, .int .i64 a1_3] 24 (0, 0)) (by refine blk_far ?_ NB235_236.out _; refine blk_far ?_ NB235_234.out _; exact BK235.out) hb); have n3_ := Ext.a (blk_below (g := gb236) (o := .cells #[.int .u64 (IntKind.u64.wrap (a1_0 + 1)), .int .i64 a2_1, .int .i64 a2_2, .int .i64 a2_3] 24 (0, 0)) (by refine blk_put (cs := #[.int .u64 a2_0, .int .i64 a2_1, .int .i64 a2_2, .int .i64 a2_3]) ?_ 0 _ rfl; refine blk_far ?_ NB236_234.out _; exact BK236.out) hb); have n4_ := Ext.a (below_step (by repeat (first | (with_reducible first | exact HB.out | apply Ext.ba | apply Ext.bn | apply Ext.bd | refine Ext.bs ?_ GE234.out | refine Ext.bs ?_ GE235.out | refine Ext.bs ?_ GE236.out) | exact HB.out | exact .refl _ _)) hb); clear BK234 BK235 BK236 HB; have HO241 := n0_; have BK234 := n1_; have BK235 := n2_; have BK236 := n3_; have HB := n4_; clear n0_ n1_ n2_ n3_ n4_; (try clear hb); (try clear hb2); (try clear hk); (try clear hi); (try clear ho0); obtain ⟨hcz35_0, hcz35_1, hcz35_2, hcz35_3⟩ := Ext.cells4 BK235.out; obtain ⟨hfz35_0, hfz35_1, hfz35_2, hfz35_3⟩ := Ext.froz4 BK235.out) | ((with_reducible refine gate_callee (f := 10) rfl ?_); refine goesL_ (some 46) rfl rfl Try.func10 (by kernel_rfl) rfl #[.agg #[.int .u64 a1_0, .int .i64 a1_1, .int .i64 a1_2, .int .i64 a1_3]] rfl (by (try simp only [List.map_toArray, List.map_cons, List.map_nil]); first | done | rfl | (simp only [List.length_drop, List.length_take]; rfl)) ?_; (with_reducible refine (meta_Encode.calls kj4 a1_0 a1_1 a1_2 a1_3 t243 t246 _ A25.out).mono ?_); rintro e w36 ⟨v244, rfl, ho0, hb⟩; refine ⟨_, rfl, ?_⟩; have n0_ := Ext.a (Kd.R_elder' (Ext.nR HO241.out) (Kd.R_base ho0) hb); have n1_ := Ext.a (Kd.R_lower (Kd.R_new' ho0 (Kd.R_lt (Ext.nR HO241.out))) (below_size (by repeat (first | (with_reducible first | exact HB.out | apply Ext.ba | apply Ext.bn | apply Ext.bd | refine Ext.bs ?_ GE234.out | refine Ext.bs ?_ GE235.out | refine Ext.bs ?_ GE236.out) | exact HB.out | exact .refl _ _)))); have n2_ := Ext.a (blk_below BK234.out hb); have n3_ := Ext.a (blk_below BK235.out hb); have n4_ := Ext.a (blk_below BK236.out hb); have n5_ := Ext.a (below_step (by repeat (first | (with_reducible first | exact HB.out | apply Ext.ba | apply Ext.bn | apply Ext.bd | refine Ext.bs ?_ GE234.out | refine Ext.bs ?_ GE235.out | refine Ext.bs ?_ GE236.out) | exact HB.out | exact .refl _ _)) hb); clear HO241 BK234 BK235 BK236 HB; have HO241 := n0_; have HO245 := n1_; have BK234 := n2_; have BK235 := n3_; have BK236 := n4_; have HB := n5_; clear n0_ n1_ n2_ n3_ n4_ n5_; (try clear hb); (try clear hb2); (try clear hk); (try clear hi); (try clear ho0); obtain ⟨hcz37_0, hcz37_1, hcz37_2, hcz37_3⟩ := Ext.cells4 BK236.out; obtain ⟨hfz37_0, hfz37_1, hfz37_2, hfz37_3⟩ := Ext.froz4 BK236.out) | ((with_reducible refine gate_callee (f := 10) rfl ?_); refine goesL_ (some 51) rfl rfl Try.func10 (by kernel_rfl) rfl #[.agg #[.int .u64 (IntKind.u64.wrap (a1_0 + 1)), .int .i64 a2_1, .int .i64 a2_2, .int .i64 a2_3]] rfl (by (try simp only [List.map_toArray, List.map_cons, List.map_nil]); first | done | rfl | (simp only [List.length_drop, List.length_take]; rfl)) ?_; (with_reducible refine (meta_Encode.calls kj4 (IntKind.u64.wrap (a1_0 + 1)) a2_1 a2_2 a2_3 t247 t250 _ A26.out).mono ?_); rintro e w38 ⟨v248, rfl, ho0, hb⟩; refine ⟨_, rfl, ?_⟩; have n0_ := Ext.a (Kd.R_elder' (Ext.nR HO241.out) (Kd.R_base ho0) hb); have n1_ := Ext.a (Kd.R_elder' (Ext.nR HO245.out) (Kd.R_base ho0) hb); have n2_ := Ext.a (Kd.R_lower (Kd.R_new' (Kd.R_new' ho0 (Kd.R_lt (Ext.nR HO241.out))) (Kd.R_lt (Ext.nR HO245.out))) (below_size (by repeat (first | (with_reducible first | exact HB.out | apply Ext.ba | apply Ext.bn | apply Ext.bd | refine Ext.bs ?_ GE234.out | refine Ext.bs ?_ GE235.out | refine Ext.bs ?_ GE236.out) | exact HB.out | exact .refl _ _)))); have n3_ := Ext.a (blk_below BK234.out hb); have n4_ := Ext.a (blk_below BK235.out hb); have n5_ := Ext.a (blk_below BK236.out hb); have n6_ := Ext.a (below_step (by repeat (first | (with_reducible first | exact HB.out | apply Ext.ba | apply Ext.bn | apply Ext.bd | refine Ext.bs ?_ GE234.out | refine Ext.bs ?_ GE235.out | refine Ext.bs ?_ GE236.out) | exact HB.out | exact .refl _ _)) hb); clear HO241 HO245 BK234 BK235 BK236 HB; have HO241 := n0_; have HO245 := n1_; have HO249 := n2_; have BK234 := n3_; have BK235 := n4_; have BK236 := n5_; have HB := n6_; clear n0_ n1_ n2_ n3_ n4_ n5_ n6_; (try clear hb); (try clear hb2); (try clear hk); (try clear hi); (try clear ho0)))
    (try simp only [Act.put, Ext.sb, Ext.sz, Ext.ss])
    go_cut [63] (fun v63 wc => ∃ (kq : Nat) (x63_26 : Bool), v63 = .bool x63_26 ∧ Aside0 (terrierlaw05_MetaTurns.j1 kq a3 t239 t243 t247 x63_26 a1_0 a1_1 a1_2 a1_3 (IntKind.u64.wrap (a1_0 + 1)) a2_1 a2_2 a2_3 = some r) ∧ Aside0 (kq ≤ kj4) ∧ Aside0 (Kd.R (Kd.int .u8) 5 wc w.heap.size (fun k_ => some k_ ≠ (v244 : Value).ownBlock ∧ some k_ ≠ (v248 : Value).ownBlock) v240 t239) ∧ Aside0 (Kd.R (Kd.int .u8) 5 wc w.heap.size (fun k_ => some k_ ≠ (v240 : Value).ownBlock ∧ some k_ ≠ (v248 : Value).ownBlock) v244 t243) ∧ Aside0 (Kd.R (Kd.int .u8) 5 wc w.heap.size (fun k_ => some k_ ≠ (v240 : Value).ownBlock ∧ some k_ ≠ (v244 : Value).ownBlock) v248 t247) ∧ Aside0 (wc.heap[gb234]? = some (.cells #[.int .u64 (IntKind.u64.wrap (a1_0 - 1)), .int .i64 a0_1, .int .i64 a0_2, .int .i64 a0_3] 24 (0, 0))) ∧ Aside0 (wc.heap[gb235]? = some (.cells #[.int .u64 a1_0, .int .i64 a1_1, .int .i64 a1_2, .int .i64 a1_3] 24 (0, 0))) ∧ Aside0 (wc.heap[gb236]? = some (.cells #[.int .u64 (IntKind.u64.wrap (a1_0 + 1)), .int .i64 a2_1, .int .i64 a2_2, .int .i64 a2_3] 24 (0, 0))) ∧ Aside0 (Below w.heap.size w wc))
    case first =>
     have H := HC27.out
     clear HC27
     by_cases c39 : t242 = 0
     ·
      rw [if_pos c39] at H
      have c39b0 : (t242 == 0) = true := beq_iff_eq.mpr c39
      have c39b1 : (t242 != 0) = false := bne_eq_false_iff_eq.mpr c39
      clear c39
      (first | rw [c39b0] | (simp only [i64_w, i32_w]; rw [c39b0]) | skip)
      by_cases c40 : t246 = 0
      ·
       rw [if_pos c40] at H
       have c40b0 : (t246 == 0) = true := beq_iff_eq.mpr c40
       have c40b1 : (t246 != 0) = false := bne_eq_false_iff_eq.mpr c40
       clear c40
       have H' := Aside0.mk H
       clear H
       go_wp2
       go_meet
       case rel => exact ⟨_, ((t250 != 0)), (by first | rfl | (simp; done) | (simp [*]; done)), H', ⟨by have := HJ4.out; first | omega | exact Nat.le_refl _⟩, ⟨by (with_reducible repeat (first | apply Kd.R_alloc | apply Kd.R_drewN | apply Kd.R_drew)); exact Kd.R_mono HO241.out (fun _ hk => ⟨hk.1.2, hk.2⟩)⟩, ⟨by (with_reducible repeat (first | apply Kd.R_alloc | apply Kd.R_drewN | apply Kd.R_drew)); exact Kd.R_mono HO245.out (fun _ hk => ⟨hk.1.2, hk.2⟩)⟩, ⟨by (with_reducible repeat (first | apply Kd.R_alloc | apply Kd.R_drewN | apply Kd.R_drew)); exact Kd.R_mono HO249.out (fun _ hk => ⟨hk.1.2, hk.2⟩)⟩, ⟨by exact BK234.out⟩, ⟨by exact BK235.out⟩, ⟨by exact BK236.out⟩, ⟨by repeat (first | (with_reducible first | exact HB.out | apply Ext.ba | apply Ext.bn | apply Ext.bd | refine Ext.bs ?_ GE234.out | refine Ext.bs ?_ GE235.out | refine Ext.bs ?_ GE236.out) | exact HB.out | exact .refl _ _)⟩⟩
      ·
       rw [if_neg c40] at H
       have c40b0 : (t246 == 0) = false := beq_eq_false_iff_ne.mpr c40
       have c40b1 : (t246 != 0) = true := bne_iff_ne.mpr c40
       have H' := Aside0.mk H
       clear H
       go_wp2
       go_meet
       case rel => exact ⟨_, (true), (by first | rfl | (simp; done) | (simp [*]; done)), H', ⟨by have := HJ4.out; first | omega | exact Nat.le_refl _⟩, ⟨by (with_reducible repeat (first | apply Kd.R_alloc | apply Kd.R_drewN | apply Kd.R_drew)); exact Kd.R_mono HO241.out (fun _ hk => ⟨hk.1.2, hk.2⟩)⟩, ⟨by (with_reducible repeat (first | apply Kd.R_alloc | apply Kd.R_drewN | apply Kd.R_drew)); exact Kd.R_mono HO245.out (fun _ hk => ⟨hk.1.2, hk.2⟩)⟩, ⟨by (with_reducible repeat (first | apply Kd.R_alloc | apply Kd.R_drewN | apply Kd.R_drew)); exact Kd.R_mono HO249.out (fun _ hk => ⟨hk.1.2, hk.2⟩)⟩, ⟨by exact BK234.out⟩, ⟨by exact BK235.out⟩, ⟨by exact BK236.out⟩, ⟨by repeat (first | (with_reducible first | exact HB.out | apply Ext.ba | apply Ext.bn | apply Ext.bd | refine Ext.bs ?_ GE234.out | refine Ext.bs ?_ GE235.out | refine Ext.bs ?_ GE236.out) | exact HB.out | exact .refl _ _)⟩⟩
     ·
      rw [if_neg c39] at H
      have c39b0 : (t242 == 0) = false := beq_eq_false_iff_ne.mpr c39
      have c39b1 : (t242 != 0) = true := bne_iff_ne.mpr c39
      (first | rw [c39b0] | (simp only [i64_w, i32_w]; rw [c39b0]) | skip)
      have H' := Aside0.mk H
      clear H
      go_wp2
      go_meet
      case rel => exact ⟨_, (true), (by first | rfl | (simp; done) | (simp [*]; done)), H', ⟨by have := HJ4.out; first | omega | exact Nat.le_refl _⟩, ⟨by (with_reducible repeat (first | apply Kd.R_alloc | apply Kd.R_drewN | apply Kd.R_drew)); exact Kd.R_mono HO241.out (fun _ hk => ⟨hk.1.2, hk.2⟩)⟩, ⟨by (with_reducible repeat (first | apply Kd.R_alloc | apply Kd.R_drewN | apply Kd.R_drew)); exact Kd.R_mono HO245.out (fun _ hk => ⟨hk.1.2, hk.2⟩)⟩, ⟨by (with_reducible repeat (first | apply Kd.R_alloc | apply Kd.R_drewN | apply Kd.R_drew)); exact Kd.R_mono HO249.out (fun _ hk => ⟨hk.1.2, hk.2⟩)⟩, ⟨by exact BK234.out⟩, ⟨by exact BK235.out⟩, ⟨by exact BK236.out⟩, ⟨by repeat (first | (with_reducible first | exact HB.out | apply Ext.ba | apply Ext.bn | apply Ext.bd | refine Ext.bs ?_ GE234.out | refine Ext.bs ?_ GE235.out | refine Ext.bs ?_ GE236.out) | exact HB.out | exact .refl _ _)⟩⟩
    case rest =>
     clear HC27
     try clear c1
     try clear c2
     try clear p2
     try clear c3
     try clear c4
     try clear c7
     try clear c9
     try clear c10
     try clear c11
     try clear c11b0
     try clear c11b1
     try clear c13
     try clear c14
     try clear c17
     try clear c18
     try clear c21
     try clear c28
     try clear c29
     try clear c31
     try clear c39
     try clear c39b0
     try clear c39b1
     try clear c40
     try clear c40b0
     try clear c40b1
     try clear hcz15_0
     try clear hcz15_1
     try clear hcz15_2
     try clear hcz15_3
     try clear hcz19_0
     try clear hcz19_1
     try clear hcz19_2
     try clear hcz19_3
     try clear hcz30_0
     try clear hcz30_1
     try clear hcz30_2
     try clear hcz30_3
     try clear hcz32_0
     try clear hcz32_1
     try clear hcz32_2
     try clear hcz32_3
     try clear hcz33_0
     try clear hcz33_1
     try clear hcz33_2
     try clear hcz33_3
     try clear hcz35_0
     try clear hcz35_1
     try clear hcz35_2
     try clear hcz35_3
     try clear hcz37_0
     try clear hcz37_1
     try clear hcz37_2
     try clear hcz37_3
     try clear hfz15_0
     try clear hfz15_1
     try clear hfz15_2
     try clear hfz15_3
     try clear hfz19_0
     try clear hfz19_1
     try clear hfz19_2
     try clear hfz19_3
     try clear hfz30_0
     try clear hfz30_1
     try clear hfz30_2
     try clear hfz30_3
     try clear hfz32_0
     try clear hfz32_1
     try clear hfz32_2
     try clear hfz32_3
     try clear hfz33_0
     try clear hfz33_1
     try clear hfz33_2
     try clear hfz33_3
     try clear hfz35_0
     try clear hfz35_1
     try clear hfz35_2
     try clear hfz35_3
     try clear hfz37_0
     try clear hfz37_1
     try clear hfz37_2
     try clear hfz37_3
     try clear p2
     obtain ⟨kq, x63_26, rfl, HA, HJ26, HO_9, HO_11, HO_13, BK234, BK235, BK236, HB⟩ := hcut
     cases kq with
     | zero => exact absurd HA.out (by simp [terrierlaw05_MetaTurns.j1])
     | succ kj26 =>
      have H := HA.out
      clear HA
      simp only [terrierlaw05_MetaTurns.j1] at H
      by_cases c41 : x63_26 = true
      ·
       subst c41
       have H1 : (some true) = some r := by rw [if_pos rfl] at H; exact H
       clear H
       have H := H1
       clear H1
       obtain rfl := Option.some.inj H
       go_wp2
       go_ret
       exact ⟨by first | rfl | (simp [errW_none, errW_some] <;> rfl) | (simp [*, errW_none, errW_some] <;> rfl), by repeat (first | (with_reducible first | exact HB.out | apply Ext.ba | apply Ext.bn | apply Ext.bd | refine Ext.bs ?_ GE234.out | refine Ext.bs ?_ GE235.out | refine Ext.bs ?_ GE236.out) | exact HB.out | exact .refl _ _)⟩
      ·
       replace c41 := Bool.eq_false_iff.mpr c41
       subst c41
       have H1 : (if 0 ≤ (wrap64 (Int.tmod (IntKind.u64.wrap (a3)) 257)) then (if (wrap64 (Int.tmod (IntKind.u64.wrap (a3)) 257)) ≤ (t247.length : Int) then ((terrierref01_Twin.f (t247.take ((wrap64 (Int.tmod (IntKind.u64.wrap (a3)) 257)) : Int).toNat)).bind fun t255 => (if (wrap64 (Int.tmod (IntKind.u64.wrap (a3)) 257)) ≤ (t239.length : Int) then ((some (t239.drop ((wrap64 (Int.tmod (IntKind.u64.wrap (a3)) 257)) : Int).toNat : List Int)).bind fun y258 => (if t255.length + y258.length < 140737488355328 then ((some (t255 ++ y258 : List Int)).bind fun y262 => ((meta_Choose.f kj26 y262 t243).bind fun bt265 => (if (Int.tmod a1_0 2) = 0 then ((meta_Choose.f kj26 t243 y262).bind fun bt271 => (terrierlaw05_MetaTurns.j2 kj26 (wrap64 (Int.tmod (IntKind.u64.wrap (a3)) 257)) bt271.2.2.2.2 a1_0 a1_1 a1_2 a1_3 (IntKind.u64.wrap (a1_0 + 1)) a2_1 a2_2 a2_3 bt271.1 bt271.2.1 bt271.2.2.1 bt271.2.2.2.1)) else (terrierlaw05_MetaTurns.j2 kj26 (wrap64 (Int.tmod (IntKind.u64.wrap (a3)) 257)) bt265.2.2.2.2 a1_0 a1_1 a1_2 a1_3 (IntKind.u64.wrap (a1_0 + 1)) a2_1 a2_2 a2_3 bt265.1 bt265.2.1 bt265.2.2.1 bt265.2.2.2.1)))) else (none))) else (none))) else (none)) else (none)) = some r := by rw [if_neg (show ¬ (false = true) by decide)] at H; exact H
       clear H
       have H := H1
       clear H1
       obtain ⟨ji42, hji42⟩ : ∃ j_ : Int, (wrap64 (Int.tmod (IntKind.u64.wrap (a3)) 257)) = j_ := ⟨_, rfl⟩
       replace H : (if 0 ≤ (ji42) then (if (ji42) ≤ (t247.length : Int) then ((terrierref01_Twin.f (t247.take ((ji42) : Int).toNat)).bind fun t255 => (if (ji42) ≤ (t239.length : Int) then ((some (t239.drop ((ji42) : Int).toNat : List Int)).bind fun y258 => (if t255.length + y258.length < 140737488355328 then ((some (t255 ++ y258 : List Int)).bind fun y262 => ((meta_Choose.f kj26 y262 t243).bind fun bt265 => (if (Int.tmod a1_0 2) = 0 then ((meta_Choose.f kj26 t243 y262).bind fun bt271 => (terrierlaw05_MetaTurns.j2 kj26 ji42 bt271.2.2.2.2 a1_0 a1_1 a1_2 a1_3 (IntKind.u64.wrap (a1_0 + 1)) a2_1 a2_2 a2_3 bt271.1 bt271.2.1 bt271.2.2.1 bt271.2.2.2.1)) else (terrierlaw05_MetaTurns.j2 kj26 ji42 bt265.2.2.2.2 a1_0 a1_1 a1_2 a1_3 (IntKind.u64.wrap (a1_0 + 1)) a2_1 a2_2 a2_3 bt265.1 bt265.2.1 bt265.2.2.1 bt265.2.2.2.1)))) else (none))) else (none))) else (none)) else (none)) = some r := by first | (rw [hji42] at H; exact H) | (simp only [hji42] at H ⊢; exact H)
       have hji42w : (IntKind.i64.wrap (Int.tmod (IntKind.u64.wrap (a3)) 257)) = ji42 := (i64_w _).trans hji42
       by_cases c43 : 0 ≤ (ji42)
       ·
        rw [if_pos c43] at H
        have c43b0 := eq_true c43
        have c43b1 : decide (0 ≤ (ji42)) = true := decide_eq_true c43
        clear c43
        by_cases c44 : (ji42) ≤ (t247.length : Int)
        ·
         rw [if_pos c44] at H
         have c44b0 := eq_true c44
         have c44b1 : decide ((ji42) ≤ (t247.length : Int)) = true := decide_eq_true c44
         clear c44
         obtain ⟨y251, hy251⟩ : ∃ y_ : List Int, y_ = (t247.take ((ji42) : Int).toNat) := ⟨_, rfl⟩
         replace H : ((terrierref01_Twin.f y251).bind fun t255 => (if (ji42) ≤ (t239.length : Int) then ((some (t239.drop ((ji42) : Int).toNat : List Int)).bind fun y258 => (if t255.length + y258.length < 140737488355328 then ((some (t255 ++ y258 : List Int)).bind fun y262 => ((meta_Choose.f kj26 y262 t243).bind fun bt265 => (if (Int.tmod a1_0 2) = 0 then ((meta_Choose.f kj26 t243 y262).bind fun bt271 => (terrierlaw05_MetaTurns.j2 kj26 ji42 bt271.2.2.2.2 a1_0 a1_1 a1_2 a1_3 (IntKind.u64.wrap (a1_0 + 1)) a2_1 a2_2 a2_3 bt271.1 bt271.2.1 bt271.2.2.1 bt271.2.2.2.1)) else (terrierlaw05_MetaTurns.j2 kj26 ji42 bt265.2.2.2.2 a1_0 a1_1 a1_2 a1_3 (IntKind.u64.wrap (a1_0 + 1)) a2_1 a2_2 a2_3 bt265.1 bt265.2.1 bt265.2.2.1 bt265.2.2.2.1)))) else (none))) else (none))) = some r := by first | (rw [hy251]; with_reducible exact H) | (have H2_ := (Option.bind_some _ _).symm.trans H; rw [hy251]; with_reducible exact H2_) | (have H2_ := (Option.bind_some _ _).symm.trans H; with_reducible exact H2_) | with_reducible exact H | (rw [hy251]; exact H) | exact H
         have Ny251 := Aside0.mk hy251
         clear hy251
         replace H := Option.bind_eq_some_iff.mp H
         obtain ⟨t255, A450, H⟩ := H
         replace H : (if (ji42) ≤ (t239.length : Int) then ((some (t239.drop ((ji42) : Int).toNat : List Int)).bind fun y258 => (if t255.length + y258.length < 140737488355328 then ((some (t255 ++ y258 : List Int)).bind fun y262 => ((meta_Choose.f kj26 y262 t243).bind fun bt265 => (if (Int.tmod a1_0 2) = 0 then ((meta_Choose.f kj26 t243 y262).bind fun bt271 => (terrierlaw05_MetaTurns.j2 kj26 ji42 bt271.2.2.2.2 a1_0 a1_1 a1_2 a1_3 (IntKind.u64.wrap (a1_0 + 1)) a2_1 a2_2 a2_3 bt271.1 bt271.2.1 bt271.2.2.1 bt271.2.2.2.1)) else (terrierlaw05_MetaTurns.j2 kj26 ji42 bt265.2.2.2.2 a1_0 a1_1 a1_2 a1_3 (IntKind.u64.wrap (a1_0 + 1)) a2_1 a2_2 a2_3 bt265.1 bt265.2.1 bt265.2.2.1 bt265.2.2.2.1)))) else (none))) else (none)) = some r := H
         have A45 := Aside0.mk A450
         clear A450
         have c46b0 := eq_true (of_decide_eq_true (by first | (with_reducible assumption) | assumption) : 0 ≤ (ji42))
         by_cases c47 : (ji42) ≤ (t239.length : Int)
         ·
          rw [if_pos c47] at H
          have c47b0 := eq_true c47
          have c47b1 : decide ((ji42) ≤ (t239.length : Int)) = true := decide_eq_true c47
          clear c47
          obtain ⟨y258, hy258⟩ : ∃ y_ : List Int, y_ = (t239.drop ((ji42) : Int).toNat) := ⟨_, rfl⟩
          replace H : (if t255.length + y258.length < 140737488355328 then ((some (t255 ++ y258 : List Int)).bind fun y262 => ((meta_Choose.f kj26 y262 t243).bind fun bt265 => (if (Int.tmod a1_0 2) = 0 then ((meta_Choose.f kj26 t243 y262).bind fun bt271 => (terrierlaw05_MetaTurns.j2 kj26 ji42 bt271.2.2.2.2 a1_0 a1_1 a1_2 a1_3 (IntKind.u64.wrap (a1_0 + 1)) a2_1 a2_2 a2_3 bt271.1 bt271.2.1 bt271.2.2.1 bt271.2.2.2.1)) else (terrierlaw05_MetaTurns.j2 kj26 ji42 bt265.2.2.2.2 a1_0 a1_1 a1_2 a1_3 (IntKind.u64.wrap (a1_0 + 1)) a2_1 a2_2 a2_3 bt265.1 bt265.2.1 bt265.2.2.1 bt265.2.2.2.1)))) else (none)) = some r := by first | (rw [hy258]; with_reducible exact H) | (have H2_ := (Option.bind_some _ _).symm.trans H; rw [hy258]; with_reducible exact H2_) | (have H2_ := (Option.bind_some _ _).symm.trans H; with_reducible exact H2_) | with_reducible exact H | (rw [hy258]; exact H) | exact H
          have Ny258 := Aside0.mk hy258
          clear hy258
          by_cases c48 : t255.length + y258.length < 140737488355328
          ·
           rw [if_pos c48] at H
           have LMc48 := Aside0.mk c48
           clear c48
           obtain ⟨y262, hy262⟩ : ∃ y_ : List Int, y_ = (t255 ++ y258) := ⟨_, rfl⟩
           replace H : ((meta_Choose.f kj26 y262 t243).bind fun bt265 => (if (Int.tmod a1_0 2) = 0 then ((meta_Choose.f kj26 t243 y262).bind fun bt271 => (terrierlaw05_MetaTurns.j2 kj26 ji42 bt271.2.2.2.2 a1_0 a1_1 a1_2 a1_3 (IntKind.u64.wrap (a1_0 + 1)) a2_1 a2_2 a2_3 bt271.1 bt271.2.1 bt271.2.2.1 bt271.2.2.2.1)) else (terrierlaw05_MetaTurns.j2 kj26 ji42 bt265.2.2.2.2 a1_0 a1_1 a1_2 a1_3 (IntKind.u64.wrap (a1_0 + 1)) a2_1 a2_2 a2_3 bt265.1 bt265.2.1 bt265.2.2.1 bt265.2.2.2.1))) = some r := by first | (rw [hy262]; with_reducible exact H) | (have H2_ := (Option.bind_some _ _).symm.trans H; rw [hy262]; with_reducible exact H2_) | (have H2_ := (Option.bind_some _ _).symm.trans H; with_reducible exact H2_) | with_reducible exact H | (rw [hy262]; exact H) | exact H
           have Ny262 := Aside0.mk hy262
           clear hy262
           replace H := Option.bind_eq_some_iff.mp H
           obtain ⟨⟨t265, t266, t267, t268, t269⟩, A490, H⟩ := H
           replace H : (if (Int.tmod a1_0 2) = 0 then ((meta_Choose.f kj26 t243 y262).bind fun bt271 => (terrierlaw05_MetaTurns.j2 kj26 ji42 bt271.2.2.2.2 a1_0 a1_1 a1_2 a1_3 (IntKind.u64.wrap (a1_0 + 1)) a2_1 a2_2 a2_3 bt271.1 bt271.2.1 bt271.2.2.1 bt271.2.2.2.1)) else (terrierlaw05_MetaTurns.j2 kj26 ji42 t269 a1_0 a1_1 a1_2 a1_3 (IntKind.u64.wrap (a1_0 + 1)) a2_1 a2_2 a2_3 t265 t266 t267 t268)) = some r := H
           have A49 := Aside0.mk A490
           clear A490
           have HC50 := Aside0.mk H
           clear H
           try go_wp2
           have n0_ := Ext.a (Kd.R_drew HO_9.out)
           have n1_ := Ext.a (Kd.R_drew HO_11.out)
           have n2_ := Ext.a (Kd.R_drew HO_13.out)
           have n3_ := Ext.a (blk_drew BK234.out)
           have n4_ := Ext.a (blk_drew BK235.out)
           have n5_ := Ext.a (blk_drew BK236.out)
           have n6_ := Ext.a (below_drew1 HB.out)
           clear HO_9
           clear HO_11
           clear HO_13
           clear BK234
           clear BK235
           clear BK236
           clear HB
           have HO_9 := n0_
           have HO_11 := n1_
           have HO_13 := n2_
           have BK234 := n3_
           have BK235 := n4_
           have BK236 := n5_
           have HB := n6_
           clear n0_ n1_ n2_ n3_ n4_ n5_ n6_
           obtain ⟨Ao53, co53, eo53⟩ := Kd.R_slice HO_13.out
           (first | subst eo53 | (injection eo53 with f1_ f2_ f3_; have f4_ := f1_.symm; have f5_ := f3_.symm; clear f1_ f2_ f3_; subst f4_; subst f5_))
           have q52 : ((ji42) : Int) ≤ ((t247.length : Int) : Int) := of_decide_eq_true (by first | (with_reducible assumption) | assumption)
           obtain ⟨i052, hi052, _, hsz52, _⟩ := info_parts info5
           have hroom52 : t247.length ≤ co53 := (Kd.R_reads' HO_13.out).2.1
           have hC52 : Kd.C (Kd.int .u8) _ Ao53 t247.length t247 := (Kd.R_reads' HO_13.out).2.2
           have hcut52 := cut_to (P := Try.prog) 26 5 .i64 Try.underlying26 hi052 Ao53 t247.length co53 (ji42) (of_decide_eq_true (by first | (with_reducible assumption) | assumption)) q52 hroom52
           have hr52 := Kd.C_take (m := ((ji42) : Int).toNat) hC52 (by omega)
           have hy52 : y251.length = ((ji42) : Int).toNat := (by rw [Ny251.out, List.length_take]; omega)
           rw [← Ny251.out] at hr52
           rw [← hy52] at hcut52
           have HR254 := Aside0.mk hr52
           have HC254 := Ext.a (show y251.length ≤ co53 from by omega)
           clear hr52 hC52 hroom52 hi052 hsz52
           have KY52 := Aside0.mk hy52
           clear hy52
           have KL52 := Ext.a (show ((ji42) : Int).toNat ≤ t247.length from by omega)
           replace q52 := eq_true q52
           obtain ⟨Ao55, co55, eo55⟩ := Kd.R_slice HO_9.out
           (first | subst eo55 | (injection eo55 with f1_ f2_ f3_; have f4_ := f1_.symm; have f5_ := f3_.symm; clear f1_ f2_ f3_; subst f4_; subst f5_))
           have q54 : ((ji42) : Int) ≤ ((t239.length : Int) : Int) := of_decide_eq_true (by first | (with_reducible assumption) | assumption)
           obtain ⟨i054, hi054, _, hsz54, _⟩ := info_parts info5
           have hroom54 : t239.length ≤ co55 := (Kd.R_reads' HO_9.out).2.1
           have hC54 : Kd.C (Kd.int .u8) _ Ao55 t239.length t239 := (Kd.R_reads' HO_9.out).2.2
           have q054 : (0 : Int) ≤ ((ji42) : Int) := of_decide_eq_true (by first | (with_reducible assumption) | assumption)
           have hcut54 := cut_from (P := Try.prog) 26 5 .i64 Try.underlying26 hi054 1 hsz54 Ao55 t239.length co55 (ji42) q054 q54
           have hr54 := Kd.C_drop (m := ((ji42) : Int).toNat) (c := co55) hC54 (by omega) hroom54
           obtain ⟨A54, hA54⟩ : ∃ A1, A1 = (if co55 = ((ji42) : Int).toNat then Ao55 else (Ao55 : Option Addr).map (·.add (((ji42) : Int).toNat * 1))) := ⟨_, rfl⟩
           obtain ⟨c54, hc54⟩ : ∃ c1, c1 = co55 - ((ji42) : Int).toNat := ⟨_, rfl⟩
           have hy54 : y258.length = t239.length - ((ji42) : Int).toNat := (by rw [Ny258.out, List.length_drop] <;> omega)
           rw [show (t239).drop ((ji42) : Int).toNat = y258 from Ny258.out.symm] at hr54
           replace hr54 : Kd.C (Kd.int .u8) _ A54 y258.length y258 := (by rw [hA54]; exact hr54)
           rw [← hy54, ← hA54, ← hc54] at hcut54
           have HR261 := Aside0.mk hr54
           have HC261 := Ext.a (show y258.length ≤ c54 from by rw [hy54, hc54]; exact Nat.sub_le_sub_right hroom54 _)
           clear hr54 hC54 hroom54 hi054 hsz54 hc54
           have KY54 := Aside0.mk hy54
           have KA54 := Aside0.mk hA54
           clear hy54 hA54
           have KL54 := Ext.a (show ((ji42) : Int).toNat ≤ t239.length from by omega)
           replace q54 := eq_true q54
           refine start_ (n := 9) (S := fun w' => True) (ds := []) #[false, false, false, false, false, false, false, false, false] (by kernel_rfl) rfl rfl trivial (fun hHeld => ?_); refine with_tabW terrierlaw05_MetaTurns.tab11 terrierlaw05_MetaTurns.bits11 (fun HT_ HW_ => ?_)
           generalize wc.drew = w51 at HO_9 HO_11 HO_13 BK234 BK235 BK236 HB HR254 HR261 hHeld ⊢
           refine pure_ (i := 0) (N := some 68) (v := ?_) (a' := ?_) #[true, false, false, false, false, false, false, false, false] rfl rfl (any_of HT_.out (by kernel_rfl)) (fun _ _ _ h => h) (Or.inl ⟨by rfl, ?_⟩) ?_ ?_
           rotate_left
           · intro w'; go_simp; with_reducible rfl
           rotate_left
           · simp only [Act.put, Ext.sb, Ext.sz, Ext.ss, i64_w, i32_w]; rfl
           refine pure_ (i := 1) (N := some 69) (v := ?_) (a' := ?_) #[true, true, false, false, false, false, false, false, false] rfl rfl (any_of HT_.out (by kernel_rfl)) (fun _ _ _ h => h) (Or.inl ⟨by rfl, ?_⟩) ?_ ?_
           rotate_left
           · intro w'; go_simp; with_reducible rfl
           rotate_left
           · simp only [Act.put, Ext.sb, Ext.sz, Ext.ss, i64_w, i32_w]; rfl
           refine pure_ (i := 2) (N := some 70) (v := ?_) (a' := ?_) #[true, true, true, false, false, false, false, false, false] rfl rfl (any_of HT_.out (by kernel_rfl)) (fun _ _ _ h => h) (Or.inl ⟨by rfl, ?_⟩) ?_ ?_
           rotate_left
           · intro w'; go_simp; with_reducible rfl
           rotate_left
           · simp only [Act.put, Ext.sb, Ext.sz, Ext.ss, i64_w, i32_w]; rfl
           refine pure_ (i := 4) (N := some 72) (v := ?_) (a' := ?_) #[true, true, true, false, true, false, false, false, false] rfl rfl (any_of HT_.out (by kernel_rfl)) (fun _ _ _ h => h) (Or.inl ⟨by rfl, ?_⟩) ?_ ?_
           rotate_left
           · intro w'; go_simp; with_reducible rfl
           rotate_left
           · simp only [Act.put, Ext.sb, Ext.sz, Ext.ss, i64_w, i32_w]; rfl
           refine pure_ (i := 5) (N := some 73) (v := ?_) (a' := ?_) #[true, true, true, false, true, true, false, false, false] rfl rfl (any_of HT_.out (by kernel_rfl)) (fun _ _ _ h => h) (Or.inl ⟨by rfl, ?_⟩) ?_ ?_
           rotate_left
           · intro w'; go_simp; with_reducible rfl
           rotate_left
           · simp only [Act.put, Ext.sb, Ext.sz, Ext.ss, i64_w, i32_w]; rfl
           refine pure_ (i := 6) (N := some 74) (v := ?_) (a' := ?_) #[true, true, true, false, true, true, true, false, false] rfl rfl (any_of HT_.out (by kernel_rfl)) (fun _ _ _ h => h) (Or.inl ⟨by rfl, ?_⟩) ?_ ?_
           rotate_left
           · intro w'; go_simp; with_reducible rfl
           rotate_left
           · simp only [Act.put, Ext.sb, Ext.sz, Ext.ss, i64_w, i32_w]; rfl
           refine one_ (i := 3) (N := some 71) #[true, true, true, true, true, true, true, false, false] rfl rfl (one_of HT_.out (by kernel_rfl)) (by decide) (fun K hK => ?_)
           refine goes_ Try.func17 (by kernel_rfl) rfl #[.slice Ao53 y251.length co53] (by rfl) rfl rfl (by (try simp only [List.map_toArray, List.map_cons, List.map_nil]); first | done | rfl | (simp only [List.length_drop, List.length_take]; rfl)) ?_
           with_reducible refine (terrierref01_Twin.calls _ _ y251 t255 _ ?side1 ?side2 A45.out).mono ?_
           (case side1 => repeat (first | exact (by repeat (first | (with_reducible exact HR254.out) | (with_reducible refine Kd.C_alloc ?_ _) | (with_reducible refine Kd.C_drewN ?_ _) | (with_reducible refine Kd.C_drew ?_) | exact HR254.out)) | (with_reducible refine Kd.C_alloc ?_ _) | (with_reducible refine Kd.C_drewN ?_ _) | (with_reducible refine Kd.C_drew ?_)))
           (case side2 => exact HC254.out)
           rintro e w56 ⟨v256, rfl, ho0, hb⟩
           refine ⟨_, rfl, ?_⟩
           have n0_ := Ext.a (Kd.R_elder' (Ext.nR HO_9.out) (Kd.R_base ho0) hb)
           have n1_ := Ext.a (Kd.R_elder' (Ext.nR HO_11.out) (Kd.R_base ho0) hb)
           have n2_ := Ext.a (Kd.R_elder' (Ext.nR HO_13.out) (Kd.R_base ho0) hb)
           have n3_ := Ext.a (Kd.R_lower (Kd.R_new' (Kd.R_new' (Kd.R_new' ho0 (Kd.R_lt (Ext.nR HO_9.out))) (Kd.R_lt (Ext.nR HO_11.out))) (Kd.R_lt (Ext.nR HO_13.out))) (below_size (by repeat (first | (with_reducible first | exact HB.out | apply Ext.ba | apply Ext.bn | apply Ext.bd | refine Ext.bs ?_ GE234.out | refine Ext.bs ?_ GE235.out | refine Ext.bs ?_ GE236.out) | exact HB.out | exact .refl _ _))))
           have n4_ := Ext.a (blk_below BK234.out hb)
           have n5_ := Ext.a (blk_below BK235.out hb)
           have n6_ := Ext.a (blk_below BK236.out hb)
           have n7_ := Ext.a (Kd.C_below (by repeat (first | (with_reducible exact HR254.out) | (with_reducible refine Kd.C_alloc ?_ _) | (with_reducible refine Kd.C_drewN ?_ _) | (with_reducible refine Kd.C_drew ?_) | exact HR254.out)) hb)
           have n8_ := Ext.a (Kd.C_below (by repeat (first | (with_reducible exact HR261.out) | (with_reducible refine Kd.C_alloc ?_ _) | (with_reducible refine Kd.C_drewN ?_ _) | (with_reducible refine Kd.C_drew ?_) | exact HR261.out)) hb)
           have n9_ := Ext.a (below_step (by repeat (first | (with_reducible first | exact HB.out | apply Ext.ba | apply Ext.bn | apply Ext.bd | refine Ext.bs ?_ GE234.out | refine Ext.bs ?_ GE235.out | refine Ext.bs ?_ GE236.out) | exact HB.out | exact .refl _ _)) hb)
           clear HO_9
           clear HO_11
           clear HO_13
           clear BK234
           clear BK235
           clear BK236
           clear HR254
           clear HR261
           clear HB
           have HO_9 := n0_
           have HO_11 := n1_
           have HO_13 := n2_
           have HO257 := n3_
           have BK234 := n4_
           have BK235 := n5_
           have BK236 := n6_
           have HR254 := n7_
           have HR261 := n8_
           have HB := n9_
           clear n0_ n1_ n2_ n3_ n4_ n5_ n6_ n7_ n8_ n9_
           (try clear hb)
           (try clear hb2)
           (try clear hk)
           (try clear hi)
           (try clear ho0)
           refine hK.out _ _ trivial (fun hHeld => ?_)
           clear hK K
           refine norm_ (a' := ?_) ?_ ?_
           rotate_left
           · show Act.put _ (some 71) _ = _; simp only [Act.put, Ext.sb, Ext.sz, Ext.ss, i64_w, i32_w]; rfl
           refine one_ (i := 7) (N := some 75) #[true, true, true, true, true, true, true, true, false] rfl rfl (one_of HT_.out (by kernel_rfl)) (by decide) (fun K hK => ?_)
           refine Kd.R_append_rows_step (Kd.int .u8) (w0 := w) w.heap.size (by rfl) (.tmp 71) (.tmp 74) 26 5 (.int .u8 0) 1 rfl Try.underlying26 info5 rfl (by decide) (by omega) v256 t255 y258 _ _ _ (fun k_ => some k_ ≠ (.slice Ao55 t239.length co55 : Value).ownBlock ∧ some k_ ≠ (v244 : Value).ownBlock ∧ some k_ ≠ (.slice Ao53 t247.length co53 : Value).ownBlock) (fun _ => False) rfl rfl ?aO ?aR (fun _ _ h => h) (fun _ h => h.elim) ?aF ?aB ?aS ?aL ?_
           (case aR => repeat (first | exact (by repeat (first | (with_reducible exact HR261.out) | (with_reducible refine Kd.C_alloc ?_ _) | (with_reducible refine Kd.C_drewN ?_ _) | (with_reducible refine Kd.C_drew ?_) | exact HR261.out)) | (with_reducible refine Kd.C_alloc ?_ _) | (with_reducible refine Kd.C_drewN ?_ _) | (with_reducible refine Kd.C_drew ?_)))
           (case aB => exact (by repeat (first | (with_reducible first | exact HB.out | apply Ext.ba | apply Ext.bn | apply Ext.bd | refine Ext.bs ?_ GE234.out | refine Ext.bs ?_ GE235.out | refine Ext.bs ?_ GE236.out) | exact HB.out | exact .refl _ _)))
           (case aF => exact (fun k_ hk => ⟨Kd.fresh' (Kd.R_lt (Ext.nR HO_9.out)) k_ hk, Kd.fresh' (Kd.R_lt (Ext.nR HO_11.out)) k_ hk, Kd.fresh' (Kd.R_lt (Ext.nR HO_13.out)) k_ hk⟩))
           (case aO => exact (Ext.nR (Kd.R_mono HO257.out (fun _ hk => ⟨hk.1.1.2, ⟨hk.1.2, hk.2⟩⟩))))
           (case aS => exact (below_size (by repeat (first | (with_reducible first | exact HB.out | apply Ext.ba | apply Ext.bn | apply Ext.bd | refine Ext.bs ?_ GE234.out | refine Ext.bs ?_ GE235.out | refine Ext.bs ?_ GE236.out) | exact HB.out | exact .refl _ _))))
           (case aL => have := LMc48.out; omega)
           intro v263 w57 ho hb hg hat
           rw [← Ny262.out] at ho
           have n0_ := Ext.a (Kd.R_after (ok := (fun k_ => some k_ ≠ (v244 : Value).ownBlock ∧ some k_ ≠ (.slice Ao53 t247.length co53 : Value).ownBlock)) (Ext.nR HO_9.out) hg hat)
           have n1_ := Ext.a (Kd.R_after (ok := (fun k_ => some k_ ≠ (.slice Ao55 t239.length co55 : Value).ownBlock ∧ some k_ ≠ (.slice Ao53 t247.length co53 : Value).ownBlock)) (Ext.nR HO_11.out) hg hat)
           have n2_ := Ext.a (Kd.R_after (ok := (fun k_ => some k_ ≠ (.slice Ao55 t239.length co55 : Value).ownBlock ∧ some k_ ≠ (v244 : Value).ownBlock)) (Ext.nR HO_13.out) hg hat)
           have n3_ := Ext.a (blk_grown BK234.out hg (Kd.R_ne HO257.out BK234.out (by decide)))
           have n4_ := Ext.a (blk_grown BK235.out hg (Kd.R_ne HO257.out BK235.out (by decide)))
           have n5_ := Ext.a (blk_grown BK236.out hg (Kd.R_ne HO257.out BK236.out (by decide)))
           have n6_ := Ext.a (hb)
           have n7_ := Ext.a ((show Kd.C (Kd.int .u8) w57 Ao53 y251.length y251 from by rw [Ny251.out]; exact Kd.C_take (m := ((ji42) : Int).toNat) ((Kd.R_reads' (Kd.R_after (ok := (fun k_ => some k_ ≠ (.slice Ao55 t239.length co55 : Value).ownBlock ∧ some k_ ≠ (v244 : Value).ownBlock)) (Ext.nR HO_13.out) hg hat)).2.2) KL52.out))
           have n8_ := Ext.a ((show Kd.C (Kd.int .u8) w57 A54 y258.length y258 from by rw [Ny258.out, KA54.out]; exact Kd.C_drop (m := ((ji42) : Int).toNat) (c := co55) ((Kd.R_reads' (Kd.R_after (ok := (fun k_ => some k_ ≠ (v244 : Value).ownBlock ∧ some k_ ≠ (.slice Ao53 t247.length co53 : Value).ownBlock)) (Ext.nR HO_9.out) hg hat)).2.2) KL54.out ((Kd.R_reads' (Kd.R_after (ok := (fun k_ => some k_ ≠ (v244 : Value).ownBlock ∧ some k_ ≠ (.slice Ao53 t247.length co53 : Value).ownBlock)) (Ext.nR HO_9.out) hg hat)).2.1)))
           have n9_ := Ext.a (ho)
           clear HO_9
           clear HO_11
           clear HO_13
           clear BK234
           clear BK235
           clear BK236
           clear HB
           clear HR254
           clear HR261
           clear HO257
           have HO_9 := n0_
           have HO_11 := n1_
           have HO_13 := n2_
           have BK234 := n3_
           have BK235 := n4_
           have BK236 := n5_
           have HB := n6_
           have HR254 := n7_
           have HR261 := n8_
           have HO264 := n9_
           clear n0_ n1_ n2_ n3_ n4_ n5_ n6_ n7_ n8_ n9_
           clear ho hb hg hat
           refine hK.out _ _ trivial (fun hHeld => ?_)
           clear hK K
           refine norm_ (a' := ?_) ?_ ?_
           rotate_left
           · show Act.put _ (some 75) _ = _; simp only [Act.put, Ext.sb, Ext.sz, Ext.ss, i64_w, i32_w]; rfl
           refine pure_ (i := 8) (N := some 15) (v := ?_) (a' := ?_) #[true, true, true, true, true, true, true, true, true] rfl rfl (any_of HT_.out (by kernel_rfl)) (fun _ _ _ h => h) (Or.inl ⟨by rfl, ?_⟩) ?_ ?_
           rotate_left
           · intro w'; go_simp; with_reducible rfl
           rotate_left
           · simp only [Act.put, Ext.sb, Ext.sz, Ext.ss, i64_w, i32_w]; rfl
           refine done_ (done_of HT_.out (by kernel_rfl)) ?_
           obtain ⟨Ao58, co58, eo58⟩ := Kd.R_slice HO264.out
           subst eo58
           obtain ⟨Ao59, co59, eo59⟩ := Kd.R_slice HO_11.out
           subst eo59
           go_upto_if 85 with (first | ((with_reducible refine gate_callee (f := 20) rfl ?_); refine goesL_ (some 79) rfl rfl Try.func20 (by kernel_rfl) rfl #[.slice Ao58 y262.length co58, .slice Ao59 t243.length co59] rfl (by (try simp only [List.map_toArray, List.map_cons, List.map_nil]); first | done | rfl | (simp only [List.length_drop, List.length_take]; rfl)) ?_; (with_reducible refine (meta_Choose.calls kj26 (fun k_ => some k_ = (.slice Ao58 y262.length co58 : Value).ownBlock) _ _ y262 (fun k_ => some k_ = (.slice Ao59 t243.length co59 : Value).ownBlock) _ _ t243 t265 t266 t267 t268 t269 _ ?side1 ?side2 A49.out).mono ?_); (case side1 => exact Kd.R_V (Kd.R_tight rfl (Kd.R_types (Kd.R_types (Kd.R_types (HO264.out) BK234.out (by decide)) BK235.out (by decide)) BK236.out (by decide)))); (case side2 => exact Kd.R_V (Kd.R_tight rfl (Kd.R_types (Kd.R_types (Kd.R_types (HO_11.out) BK234.out (by decide)) BK235.out (by decide)) BK236.out (by decide)))); rintro e w60 ⟨rfl, hb⟩; refine ⟨_, rfl, ?_⟩; have n0_ := Ext.a (Kd.R_below (Ext.nR HO_9.out) hb); have n1_ := Ext.a (Kd.R_below (Ext.nR HO_11.out) hb); have n2_ := Ext.a (Kd.R_below (Ext.nR HO_13.out) hb); have n3_ := Ext.a (Kd.R_below (Ext.nR HO264.out) hb); have n4_ := Ext.a (blk_below BK234.out hb); have n5_ := Ext.a (blk_below BK235.out hb); have n6_ := Ext.a (blk_below BK236.out hb); have n7_ := Ext.a (Kd.C_below (by repeat (first | (with_reducible exact HR254.out) | (with_reducible refine Kd.C_alloc ?_ _) | (with_reducible refine Kd.C_drewN ?_ _) | (with_reducible refine Kd.C_drew ?_) | exact HR254.out)) hb); have n8_ := Ext.a (Kd.C_below (by repeat (first | (with_reducible exact HR261.out) | (with_reducible refine Kd.C_alloc ?_ _) | (with_reducible refine Kd.C_drewN ?_ _) | (with_reducible refine Kd.C_drew ?_) | exact HR261.out)) hb); have n9_ := Ext.a (below_step (by repeat (first | (with_reducible first | exact HB.out | apply Ext.ba | apply Ext.bn | apply Ext.bd | refine Ext.bs ?_ GE234.out | refine Ext.bs ?_ GE235.out | refine Ext.bs ?_ GE236.out) | exact HB.out | exact .refl _ _)) hb); clear HO_9 HO_11 HO_13 HO264 BK234 BK235 BK236 HR254 HR261 HB; have HO_9 := n0_; have HO_11 := n1_; have HO_13 := n2_; have HO264 := n3_; have BK234 := n4_; have BK235 := n5_; have BK236 := n6_; have HR254 := n7_; have HR261 := n8_; have HB := n9_; clear n0_ n1_ n2_ n3_ n4_ n5_ n6_ n7_ n8_ n9_; (try clear hb); (try clear hb2); (try clear hk); (try clear hi)) | ((with_reducible refine gate_dst (N := 16) rfl ?_); refine box_event ?hg (N := 16) ?hd (cs := #[.int .u64 0, .int .i64 0, .int .i64 0, .int .i64 0]) (t := 24) ?hr ?_; (case hd => rfl); (case hg => rfl); (case hr => first | (go_simp; done) | (go_simp; rfl)); intro gb270 hg w61 hbox hb; have n0_ := Ext.a (Kd.R_below (Ext.nR HO_9.out) hb); have n1_ := Ext.a (Kd.R_below (Ext.nR HO_11.out) hb); have n2_ := Ext.a (Kd.R_below (Ext.nR HO_13.out) hb); have n3_ := Ext.a (Kd.R_below (Ext.nR HO264.out) hb); have n4_ := Ext.a (blk_below BK234.out hb); have n5_ := Ext.a (blk_below BK235.out hb); have n6_ := Ext.a (blk_below BK236.out hb); have n7_ := Ext.a (Kd.C_below (by repeat (first | (with_reducible exact HR254.out) | (with_reducible refine Kd.C_alloc ?_ _) | (with_reducible refine Kd.C_drewN ?_ _) | (with_reducible refine Kd.C_drew ?_) | exact HR254.out)) hb); have n8_ := Ext.a (Kd.C_below (by repeat (first | (with_reducible exact HR261.out) | (with_reducible refine Kd.C_alloc ?_ _) | (with_reducible refine Kd.C_drewN ?_ _) | (with_reducible refine Kd.C_drew ?_) | exact HR261.out)) hb); have n9_ := Ext.a (below_step (by repeat (first | (with_reducible first | exact HB.out | apply Ext.ba | apply Ext.bn | apply Ext.bd | refine Ext.bs ?_ GE234.out | refine Ext.bs ?_ GE235.out | refine Ext.bs ?_ GE236.out) | exact HB.out | exact .refl _ _)) hb); have n10_ := Ext.a (hbox); have n11_ := Ext.a ((by rw [hg]; exact (below_size (by repeat (first | (with_reducible first | exact HB.out | apply Ext.ba | apply Ext.bn | apply Ext.bd | refine Ext.bs ?_ GE234.out | refine Ext.bs ?_ GE235.out | refine Ext.bs ?_ GE236.out) | exact HB.out | exact .refl _ _))) : w.heap.size ≤ gb270)); have n12_ := Ext.a ((by rw [hg]; exact (below_size (by repeat (first | (with_reducible first | exact HB.out | apply Ext.ba | apply Ext.bn | apply Ext.bd | refine Ext.bs ?_ GE234.out | refine Ext.bs ?_ GE235.out | refine Ext.bs ?_ GE236.out) | exact HB.out | exact .refl _ _))) : w.heap.size ≤ gb270)); have n13_ := Ext.a ((by rw [hg]; exact Nat.ne_of_lt (blk_lt BK234.out) : gb234 ≠ gb270)); have n14_ := Ext.a ((by rw [hg]; exact Nat.ne_of_gt (blk_lt BK234.out) : gb270 ≠ gb234)); have n15_ := Ext.a ((by rw [hg]; exact Nat.ne_of_lt (blk_lt BK235.out) : gb235 ≠ gb270)); have n16_ := Ext.a ((by rw [hg]; exact Nat.ne_of_gt (blk_lt BK235.out) : gb270 ≠ gb235)); have n17_ := Ext.a ((by rw [hg]; exact Nat.ne_of_lt (blk_lt BK236.out) : gb236 ≠ gb270)); have n18_ := Ext.a ((by rw [hg]; exact Nat.ne_of_gt (blk_lt BK236.out) : gb270 ≠ gb236)); clear HO_9 HO_11 HO_13 HO264 BK234 BK235 BK236 HR254 HR261 HB; have HO_9 := n0_; have HO_11 := n1_; have HO_13 := n2_; have HO264 := n3_; have BK234 := n4_; have BK235 := n5_; have BK236 := n6_; have HR254 := n7_; have HR261 := n8_; have HB := n9_; have BK270 := n10_; have GW270 := n11_; have GE270 := n12_; have NB234_270 := n13_; have NB270_234 := n14_; have NB235_270 := n15_; have NB270_235 := n16_; have NB236_270 := n17_; have NB270_236 := n18_; clear n0_ n1_ n2_ n3_ n4_ n5_ n6_ n7_ n8_ n9_ n10_ n11_ n12_ n13_ n14_ n15_ n16_ n17_ n18_; clear hb hbox hg; have hnb62 := NB270_234.out; have hnc62 := NB234_270.out; have hnb63 := NB270_235.out; have hnc63 := NB235_270.out; have hnb64 := NB270_236.out; have hnc64 := NB236_270.out; obtain ⟨hcz65_0, hcz65_1, hcz65_2, hcz65_3⟩ := Ext.cells4 BK270.out; obtain ⟨hfz65_0, hfz65_1, hfz65_2, hfz65_3⟩ := Ext.froz4 BK270.out; have hnb66 := NB235_234.out; have hnc66 := NB234_235.out; have hnb67 := NB235_236.out; have hnc67 := NB236_235.out; obtain ⟨hcz68_0, hcz68_1, hcz68_2, hcz68_3⟩ := Ext.cells4 BK235.out; obtain ⟨hfz68_0, hfz68_1, hfz68_2, hfz68_3⟩ := Ext.froz4 BK235.out))
           (try simp only [Act.put, Ext.sb, Ext.sz, Ext.ss])
           go_cut [17] (fun v17 wc => ∃ (kq : Nat) (x17_49 : Int) (x271000_49 : Int) (x271001_49 : Int) (x271002_49 : Int) (x271003_49 : Int), v17 = .int .i64 x17_49 ∧ Aside0 (terrierlaw05_MetaTurns.j2 kq ji42 x17_49 a1_0 a1_1 a1_2 a1_3 (IntKind.u64.wrap (a1_0 + 1)) a2_1 a2_2 a2_3 x271000_49 x271001_49 x271002_49 x271003_49 = some r) ∧ Aside0 (kq ≤ kj26) ∧ Aside0 (wc.heap[gb234]? = some (.cells #[.int .u64 (IntKind.u64.wrap (a1_0 - 1)), .int .i64 a0_1, .int .i64 a0_2, .int .i64 a0_3] 24 (0, 0))) ∧ Aside0 (wc.heap[gb235]? = some (.cells #[.int .u64 a1_0, .int .i64 a1_1, .int .i64 a1_2, .int .i64 a1_3] 24 (0, 0))) ∧ Aside0 (wc.heap[gb236]? = some (.cells #[.int .u64 (IntKind.u64.wrap (a1_0 + 1)), .int .i64 a2_1, .int .i64 a2_2, .int .i64 a2_3] 24 (0, 0))) ∧ Aside0 (wc.heap[gb270]? = some (.cells #[.int .u64 x271000_49, .int .i64 x271001_49, .int .i64 x271002_49, .int .i64 x271003_49] 24 (0, 0))) ∧ Aside0 (Below w.heap.size w wc))
           case first =>
            have H := HC50.out
            clear HC50
            by_cases c69 : (Int.tmod a1_0 2) = 0
            ·
             rw [if_pos c69] at H
             have c69b0 : ((Int.tmod a1_0 2) == 0) = true := beq_iff_eq.mpr c69
             have c69b1 : ((Int.tmod a1_0 2) != 0) = false := bne_eq_false_iff_eq.mpr c69
             clear c69
             (first | rw [c69b0] | (simp only [i64_w, i32_w]; rw [c69b0]) | skip)
             replace H := Option.bind_eq_some_iff.mp H
             obtain ⟨⟨t271, t272, t273, t274, t275⟩, A700, H⟩ := H
             replace H : (terrierlaw05_MetaTurns.j2 kj26 ji42 t275 a1_0 a1_1 a1_2 a1_3 (IntKind.u64.wrap (a1_0 + 1)) a2_1 a2_2 a2_3 t271 t272 t273 t274) = some r := H
             have A70 := Aside0.mk A700
             clear A700
             have H' := Aside0.mk H
             clear H
             go_wp2_with (first | ((with_reducible refine gate_callee (f := 20) rfl ?_); refine goesL_ (some 89) rfl rfl Try.func20 (by kernel_rfl) rfl #[.slice Ao59 t243.length co59, .slice Ao58 y262.length co58] rfl (by (try simp only [List.map_toArray, List.map_cons, List.map_nil]); first | done | rfl | (simp only [List.length_drop, List.length_take]; rfl)) ?_; (with_reducible refine (meta_Choose.calls kj26 (fun k_ => some k_ = (.slice Ao59 t243.length co59 : Value).ownBlock) _ _ t243 (fun k_ => some k_ = (.slice Ao58 y262.length co58 : Value).ownBlock) _ _ y262 t271 t272 t273 t274 t275 _ ?side1 ?side2 A70.out).mono ?_); (case side1 => exact Kd.R_V (Kd.R_tight rfl ((Kd.R_far (p := ⟨gb270, 3, none⟩) (Kd.R_far (p := ⟨gb270, 2, none⟩) (Kd.R_far (p := ⟨gb270, 1, none⟩) (Kd.R_far (p := ⟨gb270, 0, none⟩) (Kd.R_types (Kd.R_types (Kd.R_types (Kd.R_types (Kd.R_types HO_11.out BK234.out (by decide)) BK235.out (by decide)) BK236.out (by decide)) BK270.out (by decide)) BK270.out (by decide)) (fun _ hk => hk.2) (.int .u64 t265)) (fun _ hk => hk.2) (.int .i64 t266)) (fun _ hk => hk.2) (.int .i64 t267)) (fun _ hk => hk.2) (.int .i64 t268))))); (case side2 => exact Kd.R_V (Kd.R_tight rfl ((Kd.R_far (p := ⟨gb270, 3, none⟩) (Kd.R_far (p := ⟨gb270, 2, none⟩) (Kd.R_far (p := ⟨gb270, 1, none⟩) (Kd.R_far (p := ⟨gb270, 0, none⟩) (Kd.R_types (Kd.R_types (Kd.R_types (Kd.R_types (Kd.R_types HO264.out BK234.out (by decide)) BK235.out (by decide)) BK236.out (by decide)) BK270.out (by decide)) BK270.out (by decide)) (fun _ hk => hk.2) (.int .u64 t265)) (fun _ hk => hk.2) (.int .i64 t266)) (fun _ hk => hk.2) (.int .i64 t267)) (fun _ hk => hk.2) (.int .i64 t268))))); rintro e w71 ⟨rfl, hb⟩; refine ⟨_, rfl, ?_⟩; have n0_ := Ext.a (Kd.R_below (Ext.nR ((Ext.far4 HO_9.out BK270.out (by decide) (.int .u64 t265) (.int .i64 t266) (.int .i64 t267) (.int .i64 t268)))) hb); have n1_ := Ext.a (Kd.R_below (Ext.nR ((Ext.far4 HO_11.out BK270.out (by decide) (.int .u64 t265) (.int .i64 t266) (.int .i64 t267) (.int .i64 t268)))) hb); have n2_ := Ext.a (Kd.R_below (Ext.nR ((Ext.far4 HO_13.out BK270.out (by decide) (.int .u64 t265) (.int .i64 t266) (.int .i64 t267) (.int .i64 t268)))) hb); have n3_ := Ext.a (Kd.R_below (Ext.nR ((Ext.far4 HO264.out BK270.out (by decide) (.int .u64 t265) (.int .i64 t266) (.int .i64 t267) (.int .i64 t268)))) hb); have n4_ := Ext.a (blk_below (g := gb234) (o := .cells #[.int .u64 (IntKind.u64.wrap (a1_0 - 1)), .int .i64 a0_1, .int .i64 a0_2, .int .i64 a0_3] 24 (0, 0)) (by refine blk_far ?_ NB234_270.out _; refine blk_far ?_ NB234_270.out _; refine blk_far ?_ NB234_270.out _; refine blk_far ?_ NB234_270.out _; exact BK234.out) hb); have n5_ := Ext.a (blk_below (g := gb235) (o := .cells #[.int .u64 a1_0, .int .i64 a1_1, .int .i64 a1_2, .int .i64 a1_3] 24 (0, 0)) (by refine blk_far ?_ NB235_270.out _; refine blk_far ?_ NB235_270.out _; refine blk_far ?_ NB235_270.out _; refine blk_far ?_ NB235_270.out _; exact BK235.out) hb); have n6_ := Ext.a (blk_below (g := gb236) (o := .cells #[.int .u64 (IntKind.u64.wrap (a1_0 + 1)), .int .i64 a2_1, .int .i64 a2_2, .int .i64 a2_3] 24 (0, 0)) (by refine blk_far ?_ NB236_270.out _; refine blk_far ?_ NB236_270.out _; refine blk_far ?_ NB236_270.out _; refine blk_far ?_ NB236_270.out _; exact BK236.out) hb); have n7_ := Ext.a (blk_below (g := gb270) (o := .cells #[.int .u64 t265, .int .i64 t266, .int .i64 t267, .int .i64 t268] 24 (0, 0)) (by exact Ext.puts4 BK270.out) hb); have n8_ := Ext.a (below_step (by repeat (first | (with_reducible first | exact HB.out | apply Ext.ba | apply Ext.bn | apply Ext.bd | refine Ext.bs ?_ GE234.out | refine Ext.bs ?_ GE235.out | refine Ext.bs ?_ GE236.out | refine Ext.bs ?_ GE270.out) | exact HB.out | exact .refl _ _)) hb); clear HO_9 HO_11 HO_13 HO264 BK234 BK235 BK236 BK270 HB; have HO_9 := n0_; have HO_11 := n1_; have HO_13 := n2_; have HO264 := n3_; have BK234 := n4_; have BK235 := n5_; have BK236 := n6_; have BK270 := n7_; have HB := n8_; clear n0_ n1_ n2_ n3_ n4_ n5_ n6_ n7_ n8_; (try clear hb); (try clear hb2); (try clear hk); (try clear hi); have hnb72 := NB270_234.out; have hnc72 := NB234_270.out; have hnb73 := NB270_235.out; have hnc73 := NB235_270.out; have hnb74 := NB270_236.out; have hnc74 := NB236_270.out; obtain ⟨hcz75_0, hcz75_1, hcz75_2, hcz75_3⟩ := Ext.cells4 BK270.out; obtain ⟨hfz75_0, hfz75_1, hfz75_2, hfz75_3⟩ := Ext.froz4 BK270.out))
             go_meet
             case rel => exact ⟨_, (t275), (t271), (t272), (t273), (t274), (by first | rfl | (simp; done) | (simp [*]; done)), H', ⟨by have := HJ4.out; have := HJ26.out; first | omega | exact Nat.le_refl _⟩, ⟨by refine blk_far ?_ NB234_270.out _; refine blk_far ?_ NB234_270.out _; refine blk_far ?_ NB234_270.out _; refine blk_far ?_ NB234_270.out _; exact BK234.out⟩, ⟨by refine blk_far ?_ NB235_270.out _; refine blk_far ?_ NB235_270.out _; refine blk_far ?_ NB235_270.out _; refine blk_far ?_ NB235_270.out _; exact BK235.out⟩, ⟨by refine blk_far ?_ NB236_270.out _; refine blk_far ?_ NB236_270.out _; refine blk_far ?_ NB236_270.out _; refine blk_far ?_ NB236_270.out _; exact BK236.out⟩, ⟨by refine blk_put (cs := #[.int .u64 t271, .int .i64 t272, .int .i64 t273, .int .i64 t268]) ?_ 3 _ rfl; refine blk_put (cs := #[.int .u64 t271, .int .i64 t272, .int .i64 t267, .int .i64 t268]) ?_ 2 _ rfl; refine blk_put (cs := #[.int .u64 t271, .int .i64 t266, .int .i64 t267, .int .i64 t268]) ?_ 1 _ rfl; refine blk_put (cs := #[.int .u64 t265, .int .i64 t266, .int .i64 t267, .int .i64 t268]) ?_ 0 _ rfl; exact BK270.out⟩, ⟨by repeat (first | (with_reducible first | exact HB.out | apply Ext.ba | apply Ext.bn | apply Ext.bd | refine Ext.bs ?_ GE234.out | refine Ext.bs ?_ GE235.out | refine Ext.bs ?_ GE236.out | refine Ext.bs ?_ GE270.out) | exact HB.out | exact .refl _ _)⟩⟩
            ·
             rw [if_neg c69] at H
             have c69b0 : ((Int.tmod a1_0 2) == 0) = false := beq_eq_false_iff_ne.mpr c69
             have c69b1 : ((Int.tmod a1_0 2) != 0) = true := bne_iff_ne.mpr c69
             (first | rw [c69b0] | (simp only [i64_w, i32_w]; rw [c69b0]) | skip)
             have H' := Aside0.mk H
             clear H
             go_wp2
             go_meet
             case rel => exact ⟨_, (t269), (t265), (t266), (t267), (t268), (by first | rfl | (simp; done) | (simp [*]; done)), H', ⟨by have := HJ4.out; have := HJ26.out; first | omega | exact Nat.le_refl _⟩, ⟨by refine blk_far ?_ NB234_270.out _; refine blk_far ?_ NB234_270.out _; refine blk_far ?_ NB234_270.out _; refine blk_far ?_ NB234_270.out _; exact BK234.out⟩, ⟨by refine blk_far ?_ NB235_270.out _; refine blk_far ?_ NB235_270.out _; refine blk_far ?_ NB235_270.out _; refine blk_far ?_ NB235_270.out _; exact BK235.out⟩, ⟨by refine blk_far ?_ NB236_270.out _; refine blk_far ?_ NB236_270.out _; refine blk_far ?_ NB236_270.out _; refine blk_far ?_ NB236_270.out _; exact BK236.out⟩, ⟨by refine blk_put (cs := #[.int .u64 t265, .int .i64 t266, .int .i64 t267, .int .i64 0]) ?_ 3 _ rfl; refine blk_put (cs := #[.int .u64 t265, .int .i64 t266, .int .i64 0, .int .i64 0]) ?_ 2 _ rfl; refine blk_put (cs := #[.int .u64 t265, .int .i64 0, .int .i64 0, .int .i64 0]) ?_ 1 _ rfl; refine blk_put (cs := #[.int .u64 0, .int .i64 0, .int .i64 0, .int .i64 0]) ?_ 0 _ rfl; exact BK270.out⟩, ⟨by repeat (first | (with_reducible first | exact HB.out | apply Ext.ba | apply Ext.bn | apply Ext.bd | refine Ext.bs ?_ GE234.out | refine Ext.bs ?_ GE235.out | refine Ext.bs ?_ GE236.out | refine Ext.bs ?_ GE270.out) | exact HB.out | exact .refl _ _)⟩⟩
           case rest =>
            clear HC50
            try clear c1
            try clear c2
            try clear p2
            try clear c3
            try clear c4
            try clear c5
            try clear q5
            try clear c6
            try clear p6
            try clear c7
            try clear c9
            try clear c10
            try clear c11
            try clear c11b0
            try clear c11b1
            try clear c13
            try clear c14
            try clear c17
            try clear c18
            try clear c20
            try clear c21
            try clear c28
            try clear c29
            try clear c31
            try clear c39
            try clear c39b0
            try clear c39b1
            try clear c40
            try clear c40b0
            try clear c40b1
            try clear c41
            try clear c43
            try clear c43b0
            try clear c43b1
            try clear c44
            try clear c44b0
            try clear c44b1
            try clear c46
            try clear c46b0
            try clear c47
            try clear c47b0
            try clear c47b1
            try clear c48
            try clear q52
            try clear c54
            try clear q54
            try clear c62
            try clear c63
            try clear c64
            try clear p64
            try clear c66
            try clear c67
            try clear c69
            try clear c69b0
            try clear c69b1
            try clear c72
            try clear c73
            try clear c74
            try clear hcz15_0
            try clear hcz15_1
            try clear hcz15_2
            try clear hcz15_3
            try clear hcz19_0
            try clear hcz19_1
            try clear hcz19_2
            try clear hcz19_3
            try clear hcz30_0
            try clear hcz30_1
            try clear hcz30_2
            try clear hcz30_3
            try clear hcz32_0
            try clear hcz32_1
            try clear hcz32_2
            try clear hcz32_3
            try clear hcz33_0
            try clear hcz33_1
            try clear hcz33_2
            try clear hcz33_3
            try clear hcz35_0
            try clear hcz35_1
            try clear hcz35_2
            try clear hcz35_3
            try clear hcz37_0
            try clear hcz37_1
            try clear hcz37_2
            try clear hcz37_3
            try clear hcz65_0
            try clear hcz65_1
            try clear hcz65_2
            try clear hcz65_3
            try clear hcz68_0
            try clear hcz68_1
            try clear hcz68_2
            try clear hcz68_3
            try clear hcz75_0
            try clear hcz75_1
            try clear hcz75_2
            try clear hcz75_3
            try clear hfz15_0
            try clear hfz15_1
            try clear hfz15_2
            try clear hfz15_3
            try clear hfz19_0
            try clear hfz19_1
            try clear hfz19_2
            try clear hfz19_3
            try clear hfz30_0
            try clear hfz30_1
            try clear hfz30_2
            try clear hfz30_3
            try clear hfz32_0
            try clear hfz32_1
            try clear hfz32_2
            try clear hfz32_3
            try clear hfz33_0
            try clear hfz33_1
            try clear hfz33_2
            try clear hfz33_3
            try clear hfz35_0
            try clear hfz35_1
            try clear hfz35_2
            try clear hfz35_3
            try clear hfz37_0
            try clear hfz37_1
            try clear hfz37_2
            try clear hfz37_3
            try clear hfz65_0
            try clear hfz65_1
            try clear hfz65_2
            try clear hfz65_3
            try clear hfz68_0
            try clear hfz68_1
            try clear hfz68_2
            try clear hfz68_3
            try clear hfz75_0
            try clear hfz75_1
            try clear hfz75_2
            try clear hfz75_3
            try clear p2
            try clear q054
            try clear q52
            try clear q54
            obtain ⟨kq, x17_49, x271000_49, x271001_49, x271002_49, x271003_49, rfl, HA, HJ49, BK234, BK235, BK236, BK270, HB⟩ := hcut
            cases kq with
            | zero => exact absurd HA.out (by simp [terrierlaw05_MetaTurns.j2])
            | succ kj49 =>
             have H := HA.out
             clear HA
             simp only [terrierlaw05_MetaTurns.j2] at H
             have HC76 := Aside0.mk H
             clear H
             go_upto_region 15 with (fail)
             go_cut [8] (fun v8 wc => ∃ (kq : Nat) (x8_75 : Bool), v8 = .bool x8_75 ∧ Aside0 (terrierlaw05_MetaTurns.j3 kq x8_75 = some r) ∧ Aside0 (kq ≤ kj49) ∧ Aside0 (wc.heap[gb234]? = some (.cells #[.int .u64 (IntKind.u64.wrap (a1_0 - 1)), .int .i64 a0_1, .int .i64 a0_2, .int .i64 a0_3] 24 (0, 0))) ∧ Aside0 (wc.heap[gb235]? = some (.cells #[.int .u64 a1_0, .int .i64 a1_1, .int .i64 a1_2, .int .i64 a1_3] 24 (0, 0))) ∧ Aside0 (wc.heap[gb236]? = some (.cells #[.int .u64 (IntKind.u64.wrap (a1_0 + 1)), .int .i64 a2_1, .int .i64 a2_2, .int .i64 a2_3] 24 (0, 0))) ∧ Aside0 (wc.heap[gb270]? = some (.cells #[.int .u64 x271000_49, .int .i64 x271001_49, .int .i64 x271002_49, .int .i64 x271003_49] 24 (0, 0))) ∧ Aside0 (Below w.heap.size w wc))
             case first =>
              have H := HC76.out
              clear HC76
              by_cases c77 : x17_49 = 0
              ·
               rw [if_pos c77] at H
               have c77b0 : (x17_49 == 0) = true := beq_iff_eq.mpr c77
               have c77b1 : (x17_49 != 0) = false := bne_eq_false_iff_eq.mpr c77
               clear c77
               (first | rw [c77b0] | (simp only [i64_w, i32_w]; rw [c77b0]) | skip)
               by_cases c78 : (x271000_49 == a1_0 && (x271001_49 == a1_1 && (x271002_49 == a1_2 && (x271003_49 == a1_3)))) = true
               ·
                rw [if_pos c78] at H
                have c78b0 : (x271000_49 == a1_0 && (x271001_49 == a1_1 && (x271002_49 == a1_2 && (x271003_49 == a1_3)))) = true := c78
                (try (have c78b1 : decide (x271000_49 = a1_0 && (x271001_49 == a1_1 && (x271002_49 == a1_2 && (x271003_49 == a1_3)))) = true := by simpa using c78))
                (try (have c78b2 : (x271000_49 == a1_0 && (x271001_49 == a1_1 && (x271002_49 == a1_2 && (x271003_49 == a1_3)))) = true := by simpa using c78))
                clear c78
                by_cases c79 : ji42 < 256
                ·
                 rw [if_pos c79] at H
                 have c79b0 : decide (ji42 < 256) = true := decide_eq_true c79
                 clear c79
                 have H' := Aside0.mk H
                 clear H
                 have hnb80 := NB270_234.out
                 have hnc80 := NB234_270.out
                 have hnb81 := NB270_235.out
                 have hnc81 := NB235_270.out
                 have hnb82 := NB270_236.out
                 have hnc82 := NB236_270.out
                 have hcz83_0 : wc.cell? ⟨gb270, 0, none⟩ = some (.int .u64 x271000_49) := (blk_cell BK270.out 0).trans rfl
                 have hcz83_1 : wc.cell? ⟨gb270, 1, none⟩ = some (.int .i64 x271001_49) := (blk_cell BK270.out 1).trans rfl
                 have hcz83_2 : wc.cell? ⟨gb270, 2, none⟩ = some (.int .i64 x271002_49) := (blk_cell BK270.out 2).trans rfl
                 have hcz83_3 : wc.cell? ⟨gb270, 3, none⟩ = some (.int .i64 x271003_49) := (blk_cell BK270.out 3).trans rfl
                 have hfz83_0 := blk_frozen BK270.out 0
                 have hfz83_1 := blk_frozen BK270.out 1
                 have hfz83_2 := blk_frozen BK270.out 2
                 have hfz83_3 := blk_frozen BK270.out 3
                 have hnb84 := NB235_234.out
                 have hnc84 := NB234_235.out
                 have hnb85 := NB235_236.out
                 have hnc85 := NB236_235.out
                 have hcz86_0 : wc.cell? ⟨gb235, 0, none⟩ = some (.int .u64 a1_0) := (blk_cell BK235.out 0).trans rfl
                 have hcz86_1 : wc.cell? ⟨gb235, 1, none⟩ = some (.int .i64 a1_1) := (blk_cell BK235.out 1).trans rfl
                 have hcz86_2 : wc.cell? ⟨gb235, 2, none⟩ = some (.int .i64 a1_2) := (blk_cell BK235.out 2).trans rfl
                 have hcz86_3 : wc.cell? ⟨gb235, 3, none⟩ = some (.int .i64 a1_3) := (blk_cell BK235.out 3).trans rfl
                 have hfz86_0 := blk_frozen BK235.out 0
                 have hfz86_1 := blk_frozen BK235.out 1
                 have hfz86_2 := blk_frozen BK235.out 2
                 have hfz86_3 := blk_frozen BK235.out 3
                 go_wp2
                 go_meet
                 case rel => exact ⟨_, (true), (by first | rfl | (simp; done) | (simp [*]; done)), H', ⟨by have := HJ4.out; have := HJ26.out; have := HJ49.out; first | omega | exact Nat.le_refl _⟩, ⟨by exact BK234.out⟩, ⟨by exact BK235.out⟩, ⟨by exact BK236.out⟩, ⟨by exact BK270.out⟩, ⟨by repeat (first | (with_reducible first | exact HB.out | apply Ext.ba | apply Ext.bn | apply Ext.bd | refine Ext.bs ?_ GE234.out | refine Ext.bs ?_ GE235.out | refine Ext.bs ?_ GE236.out | refine Ext.bs ?_ GE270.out) | exact HB.out | exact .refl _ _)⟩⟩
                ·
                 rw [if_neg c79] at H
                 have c79b0 : decide (ji42 < 256) = false := decide_eq_false c79
                 clear c79
                 have H' := Aside0.mk H
                 clear H
                 have hnb87 := NB270_234.out
                 have hnc87 := NB234_270.out
                 have hnb88 := NB270_235.out
                 have hnc88 := NB235_270.out
                 have hnb89 := NB270_236.out
                 have hnc89 := NB236_270.out
                 have hcz90_0 : wc.cell? ⟨gb270, 0, none⟩ = some (.int .u64 x271000_49) := (blk_cell BK270.out 0).trans rfl
                 have hcz90_1 : wc.cell? ⟨gb270, 1, none⟩ = some (.int .i64 x271001_49) := (blk_cell BK270.out 1).trans rfl
                 have hcz90_2 : wc.cell? ⟨gb270, 2, none⟩ = some (.int .i64 x271002_49) := (blk_cell BK270.out 2).trans rfl
                 have hcz90_3 : wc.cell? ⟨gb270, 3, none⟩ = some (.int .i64 x271003_49) := (blk_cell BK270.out 3).trans rfl
                 have hfz90_0 := blk_frozen BK270.out 0
                 have hfz90_1 := blk_frozen BK270.out 1
                 have hfz90_2 := blk_frozen BK270.out 2
                 have hfz90_3 := blk_frozen BK270.out 3
                 have hnb91 := NB235_234.out
                 have hnc91 := NB234_235.out
                 have hnb92 := NB235_236.out
                 have hnc92 := NB236_235.out
                 have hcz93_0 : wc.cell? ⟨gb235, 0, none⟩ = some (.int .u64 a1_0) := (blk_cell BK235.out 0).trans rfl
                 have hcz93_1 : wc.cell? ⟨gb235, 1, none⟩ = some (.int .i64 a1_1) := (blk_cell BK235.out 1).trans rfl
                 have hcz93_2 : wc.cell? ⟨gb235, 2, none⟩ = some (.int .i64 a1_2) := (blk_cell BK235.out 2).trans rfl
                 have hcz93_3 : wc.cell? ⟨gb235, 3, none⟩ = some (.int .i64 a1_3) := (blk_cell BK235.out 3).trans rfl
                 have hfz93_0 := blk_frozen BK235.out 0
                 have hfz93_1 := blk_frozen BK235.out 1
                 have hfz93_2 := blk_frozen BK235.out 2
                 have hfz93_3 := blk_frozen BK235.out 3
                 have hnb94 := NB236_234.out
                 have hnc94 := NB234_236.out
                 have hcz95_0 : wc.cell? ⟨gb236, 0, none⟩ = some (.int .u64 (IntKind.u64.wrap (a1_0 + 1))) := (blk_cell BK236.out 0).trans rfl
                 have hcz95_1 : wc.cell? ⟨gb236, 1, none⟩ = some (.int .i64 a2_1) := (blk_cell BK236.out 1).trans rfl
                 have hcz95_2 : wc.cell? ⟨gb236, 2, none⟩ = some (.int .i64 a2_2) := (blk_cell BK236.out 2).trans rfl
                 have hcz95_3 : wc.cell? ⟨gb236, 3, none⟩ = some (.int .i64 a2_3) := (blk_cell BK236.out 3).trans rfl
                 have hfz95_0 := blk_frozen BK236.out 0
                 have hfz95_1 := blk_frozen BK236.out 1
                 have hfz95_2 := blk_frozen BK236.out 2
                 have hfz95_3 := blk_frozen BK236.out 3
                 go_wp2
                 go_meet
                 case rel => exact ⟨_, ((x271000_49 == (IntKind.u64.wrap (a1_0 + 1)) && (x271001_49 == a2_1 && (x271002_49 == a2_2 && (x271003_49 == a2_3))))), (by first | rfl | (simp; done) | (simp [*]; done)), H', ⟨by have := HJ4.out; have := HJ26.out; have := HJ49.out; first | omega | exact Nat.le_refl _⟩, ⟨by exact BK234.out⟩, ⟨by exact BK235.out⟩, ⟨by exact BK236.out⟩, ⟨by exact BK270.out⟩, ⟨by repeat (first | (with_reducible first | exact HB.out | apply Ext.ba | apply Ext.bn | apply Ext.bd | refine Ext.bs ?_ GE234.out | refine Ext.bs ?_ GE235.out | refine Ext.bs ?_ GE236.out | refine Ext.bs ?_ GE270.out) | exact HB.out | exact .refl _ _)⟩⟩
               ·
                rw [if_neg c78] at H
                have c78b0 : (x271000_49 == a1_0 && (x271001_49 == a1_1 && (x271002_49 == a1_2 && (x271003_49 == a1_3)))) = false := by simpa using c78
                (try (have c78b1 : decide (x271000_49 = a1_0 && (x271001_49 == a1_1 && (x271002_49 == a1_2 && (x271003_49 == a1_3)))) = false := by simpa using c78))
                (try (have c78b2 : (x271000_49 == a1_0 && (x271001_49 == a1_1 && (x271002_49 == a1_2 && (x271003_49 == a1_3)))) = false := by simpa using c78))
                (try (have c78b3 : ¬ (x271000_49 = a1_0 && (x271001_49 == a1_1 && (x271002_49 == a1_2 && (x271003_49 == a1_3)))) := by simpa using c78))
                clear c78
                by_cases c96 : (x271000_49 == (IntKind.u64.wrap (a1_0 + 1)) && (x271001_49 == a2_1 && (x271002_49 == a2_2 && (x271003_49 == a2_3)))) = true
                ·
                 rw [if_pos c96] at H
                 have c96b0 : (x271000_49 == (IntKind.u64.wrap (a1_0 + 1)) && (x271001_49 == a2_1 && (x271002_49 == a2_2 && (x271003_49 == a2_3)))) = true := c96
                 (try (have c96b1 : decide (x271000_49 = (IntKind.u64.wrap (a1_0 + 1)) && (x271001_49 == a2_1 && (x271002_49 == a2_2 && (x271003_49 == a2_3)))) = true := by simpa using c96))
                 (try (have c96b2 : (x271000_49 == (IntKind.u64.wrap (a1_0 + 1)) && (x271001_49 == a2_1 && (x271002_49 == a2_2 && (x271003_49 == a2_3)))) = true := by simpa using c96))
                 clear c96
                 by_cases c97 : ji42 < 256
                 ·
                  rw [if_pos c97] at H
                  have c97b0 : decide (ji42 < 256) = true := decide_eq_true c97
                  clear c97
                  have H' := Aside0.mk H
                  clear H
                  have hnb98 := NB270_234.out
                  have hnc98 := NB234_270.out
                  have hnb99 := NB270_235.out
                  have hnc99 := NB235_270.out
                  have hnb100 := NB270_236.out
                  have hnc100 := NB236_270.out
                  have hcz101_0 : wc.cell? ⟨gb270, 0, none⟩ = some (.int .u64 x271000_49) := (blk_cell BK270.out 0).trans rfl
                  have hcz101_1 : wc.cell? ⟨gb270, 1, none⟩ = some (.int .i64 x271001_49) := (blk_cell BK270.out 1).trans rfl
                  have hcz101_2 : wc.cell? ⟨gb270, 2, none⟩ = some (.int .i64 x271002_49) := (blk_cell BK270.out 2).trans rfl
                  have hcz101_3 : wc.cell? ⟨gb270, 3, none⟩ = some (.int .i64 x271003_49) := (blk_cell BK270.out 3).trans rfl
                  have hfz101_0 := blk_frozen BK270.out 0
                  have hfz101_1 := blk_frozen BK270.out 1
                  have hfz101_2 := blk_frozen BK270.out 2
                  have hfz101_3 := blk_frozen BK270.out 3
                  have hnb102 := NB235_234.out
                  have hnc102 := NB234_235.out
                  have hnb103 := NB235_236.out
                  have hnc103 := NB236_235.out
                  have hcz104_0 : wc.cell? ⟨gb235, 0, none⟩ = some (.int .u64 a1_0) := (blk_cell BK235.out 0).trans rfl
                  have hcz104_1 : wc.cell? ⟨gb235, 1, none⟩ = some (.int .i64 a1_1) := (blk_cell BK235.out 1).trans rfl
                  have hcz104_2 : wc.cell? ⟨gb235, 2, none⟩ = some (.int .i64 a1_2) := (blk_cell BK235.out 2).trans rfl
                  have hcz104_3 : wc.cell? ⟨gb235, 3, none⟩ = some (.int .i64 a1_3) := (blk_cell BK235.out 3).trans rfl
                  have hfz104_0 := blk_frozen BK235.out 0
                  have hfz104_1 := blk_frozen BK235.out 1
                  have hfz104_2 := blk_frozen BK235.out 2
                  have hfz104_3 := blk_frozen BK235.out 3
                  have hnb105 := NB236_234.out
                  have hnc105 := NB234_236.out
                  have hcz106_0 : wc.cell? ⟨gb236, 0, none⟩ = some (.int .u64 (IntKind.u64.wrap (a1_0 + 1))) := (blk_cell BK236.out 0).trans rfl
                  have hcz106_1 : wc.cell? ⟨gb236, 1, none⟩ = some (.int .i64 a2_1) := (blk_cell BK236.out 1).trans rfl
                  have hcz106_2 : wc.cell? ⟨gb236, 2, none⟩ = some (.int .i64 a2_2) := (blk_cell BK236.out 2).trans rfl
                  have hcz106_3 : wc.cell? ⟨gb236, 3, none⟩ = some (.int .i64 a2_3) := (blk_cell BK236.out 3).trans rfl
                  have hfz106_0 := blk_frozen BK236.out 0
                  have hfz106_1 := blk_frozen BK236.out 1
                  have hfz106_2 := blk_frozen BK236.out 2
                  have hfz106_3 := blk_frozen BK236.out 3
                  go_wp2
                  go_meet
                  case rel => exact ⟨_, (true), (by first | rfl | (simp; done) | (simp [*]; done)), H', ⟨by have := HJ4.out; have := HJ26.out; have := HJ49.out; first | omega | exact Nat.le_refl _⟩, ⟨by exact BK234.out⟩, ⟨by exact BK235.out⟩, ⟨by exact BK236.out⟩, ⟨by exact BK270.out⟩, ⟨by repeat (first | (with_reducible first | exact HB.out | apply Ext.ba | apply Ext.bn | apply Ext.bd | refine Ext.bs ?_ GE234.out | refine Ext.bs ?_ GE235.out | refine Ext.bs ?_ GE236.out | refine Ext.bs ?_ GE270.out) | exact HB.out | exact .refl _ _)⟩⟩
                 ·
                  rw [if_neg c97] at H
                  have c97b0 : decide (ji42 < 256) = false := decide_eq_false c97
                  clear c97
                  have H' := Aside0.mk H
                  clear H
                  have hnb107 := NB270_234.out
                  have hnc107 := NB234_270.out
                  have hnb108 := NB270_235.out
                  have hnc108 := NB235_270.out
                  have hnb109 := NB270_236.out
                  have hnc109 := NB236_270.out
                  have hcz110_0 : wc.cell? ⟨gb270, 0, none⟩ = some (.int .u64 x271000_49) := (blk_cell BK270.out 0).trans rfl
                  have hcz110_1 : wc.cell? ⟨gb270, 1, none⟩ = some (.int .i64 x271001_49) := (blk_cell BK270.out 1).trans rfl
                  have hcz110_2 : wc.cell? ⟨gb270, 2, none⟩ = some (.int .i64 x271002_49) := (blk_cell BK270.out 2).trans rfl
                  have hcz110_3 : wc.cell? ⟨gb270, 3, none⟩ = some (.int .i64 x271003_49) := (blk_cell BK270.out 3).trans rfl
                  have hfz110_0 := blk_frozen BK270.out 0
                  have hfz110_1 := blk_frozen BK270.out 1
                  have hfz110_2 := blk_frozen BK270.out 2
                  have hfz110_3 := blk_frozen BK270.out 3
                  have hnb111 := NB235_234.out
                  have hnc111 := NB234_235.out
                  have hnb112 := NB235_236.out
                  have hnc112 := NB236_235.out
                  have hcz113_0 : wc.cell? ⟨gb235, 0, none⟩ = some (.int .u64 a1_0) := (blk_cell BK235.out 0).trans rfl
                  have hcz113_1 : wc.cell? ⟨gb235, 1, none⟩ = some (.int .i64 a1_1) := (blk_cell BK235.out 1).trans rfl
                  have hcz113_2 : wc.cell? ⟨gb235, 2, none⟩ = some (.int .i64 a1_2) := (blk_cell BK235.out 2).trans rfl
                  have hcz113_3 : wc.cell? ⟨gb235, 3, none⟩ = some (.int .i64 a1_3) := (blk_cell BK235.out 3).trans rfl
                  have hfz113_0 := blk_frozen BK235.out 0
                  have hfz113_1 := blk_frozen BK235.out 1
                  have hfz113_2 := blk_frozen BK235.out 2
                  have hfz113_3 := blk_frozen BK235.out 3
                  have hnb114 := NB236_234.out
                  have hnc114 := NB234_236.out
                  have hcz115_0 : wc.cell? ⟨gb236, 0, none⟩ = some (.int .u64 (IntKind.u64.wrap (a1_0 + 1))) := (blk_cell BK236.out 0).trans rfl
                  have hcz115_1 : wc.cell? ⟨gb236, 1, none⟩ = some (.int .i64 a2_1) := (blk_cell BK236.out 1).trans rfl
                  have hcz115_2 : wc.cell? ⟨gb236, 2, none⟩ = some (.int .i64 a2_2) := (blk_cell BK236.out 2).trans rfl
                  have hcz115_3 : wc.cell? ⟨gb236, 3, none⟩ = some (.int .i64 a2_3) := (blk_cell BK236.out 3).trans rfl
                  have hfz115_0 := blk_frozen BK236.out 0
                  have hfz115_1 := blk_frozen BK236.out 1
                  have hfz115_2 := blk_frozen BK236.out 2
                  have hfz115_3 := blk_frozen BK236.out 3
                  go_wp2
                  go_meet
                  case rel => exact ⟨_, ((x271000_49 == (IntKind.u64.wrap (a1_0 + 1)) && (x271001_49 == a2_1 && (x271002_49 == a2_2 && (x271003_49 == a2_3))))), (by first | rfl | (simp; done) | (simp [*]; done)), H', ⟨by have := HJ4.out; have := HJ26.out; have := HJ49.out; first | omega | exact Nat.le_refl _⟩, ⟨by exact BK234.out⟩, ⟨by exact BK235.out⟩, ⟨by exact BK236.out⟩, ⟨by exact BK270.out⟩, ⟨by repeat (first | (with_reducible first | exact HB.out | apply Ext.ba | apply Ext.bn | apply Ext.bd | refine Ext.bs ?_ GE234.out | refine Ext.bs ?_ GE235.out | refine Ext.bs ?_ GE236.out | refine Ext.bs ?_ GE270.out) | exact HB.out | exact .refl _ _)⟩⟩
                ·
                 rw [if_neg c96] at H
                 have c96b0 : (x271000_49 == (IntKind.u64.wrap (a1_0 + 1)) && (x271001_49 == a2_1 && (x271002_49 == a2_2 && (x271003_49 == a2_3)))) = false := by simpa using c96
                 (try (have c96b1 : decide (x271000_49 = (IntKind.u64.wrap (a1_0 + 1)) && (x271001_49 == a2_1 && (x271002_49 == a2_2 && (x271003_49 == a2_3)))) = false := by simpa using c96))
                 (try (have c96b2 : (x271000_49 == (IntKind.u64.wrap (a1_0 + 1)) && (x271001_49 == a2_1 && (x271002_49 == a2_2 && (x271003_49 == a2_3)))) = false := by simpa using c96))
                 (try (have c96b3 : ¬ (x271000_49 = (IntKind.u64.wrap (a1_0 + 1)) && (x271001_49 == a2_1 && (x271002_49 == a2_2 && (x271003_49 == a2_3)))) := by simpa using c96))
                 clear c96
                 have H' := Aside0.mk H
                 clear H
                 have hnb116 := NB270_234.out
                 have hnc116 := NB234_270.out
                 have hnb117 := NB270_235.out
                 have hnc117 := NB235_270.out
                 have hnb118 := NB270_236.out
                 have hnc118 := NB236_270.out
                 have hcz119_0 : wc.cell? ⟨gb270, 0, none⟩ = some (.int .u64 x271000_49) := (blk_cell BK270.out 0).trans rfl
                 have hcz119_1 : wc.cell? ⟨gb270, 1, none⟩ = some (.int .i64 x271001_49) := (blk_cell BK270.out 1).trans rfl
                 have hcz119_2 : wc.cell? ⟨gb270, 2, none⟩ = some (.int .i64 x271002_49) := (blk_cell BK270.out 2).trans rfl
                 have hcz119_3 : wc.cell? ⟨gb270, 3, none⟩ = some (.int .i64 x271003_49) := (blk_cell BK270.out 3).trans rfl
                 have hfz119_0 := blk_frozen BK270.out 0
                 have hfz119_1 := blk_frozen BK270.out 1
                 have hfz119_2 := blk_frozen BK270.out 2
                 have hfz119_3 := blk_frozen BK270.out 3
                 have hnb120 := NB235_234.out
                 have hnc120 := NB234_235.out
                 have hnb121 := NB235_236.out
                 have hnc121 := NB236_235.out
                 have hcz122_0 : wc.cell? ⟨gb235, 0, none⟩ = some (.int .u64 a1_0) := (blk_cell BK235.out 0).trans rfl
                 have hcz122_1 : wc.cell? ⟨gb235, 1, none⟩ = some (.int .i64 a1_1) := (blk_cell BK235.out 1).trans rfl
                 have hcz122_2 : wc.cell? ⟨gb235, 2, none⟩ = some (.int .i64 a1_2) := (blk_cell BK235.out 2).trans rfl
                 have hcz122_3 : wc.cell? ⟨gb235, 3, none⟩ = some (.int .i64 a1_3) := (blk_cell BK235.out 3).trans rfl
                 have hfz122_0 := blk_frozen BK235.out 0
                 have hfz122_1 := blk_frozen BK235.out 1
                 have hfz122_2 := blk_frozen BK235.out 2
                 have hfz122_3 := blk_frozen BK235.out 3
                 have hnb123 := NB236_234.out
                 have hnc123 := NB234_236.out
                 have hcz124_0 : wc.cell? ⟨gb236, 0, none⟩ = some (.int .u64 (IntKind.u64.wrap (a1_0 + 1))) := (blk_cell BK236.out 0).trans rfl
                 have hcz124_1 : wc.cell? ⟨gb236, 1, none⟩ = some (.int .i64 a2_1) := (blk_cell BK236.out 1).trans rfl
                 have hcz124_2 : wc.cell? ⟨gb236, 2, none⟩ = some (.int .i64 a2_2) := (blk_cell BK236.out 2).trans rfl
                 have hcz124_3 : wc.cell? ⟨gb236, 3, none⟩ = some (.int .i64 a2_3) := (blk_cell BK236.out 3).trans rfl
                 have hfz124_0 := blk_frozen BK236.out 0
                 have hfz124_1 := blk_frozen BK236.out 1
                 have hfz124_2 := blk_frozen BK236.out 2
                 have hfz124_3 := blk_frozen BK236.out 3
                 go_wp2
                 go_meet
                 case rel => exact ⟨_, (false), (by first | rfl | (simp; done) | (simp [*]; done)), H', ⟨by have := HJ4.out; have := HJ26.out; have := HJ49.out; first | omega | exact Nat.le_refl _⟩, ⟨by exact BK234.out⟩, ⟨by exact BK235.out⟩, ⟨by exact BK236.out⟩, ⟨by exact BK270.out⟩, ⟨by repeat (first | (with_reducible first | exact HB.out | apply Ext.ba | apply Ext.bn | apply Ext.bd | refine Ext.bs ?_ GE234.out | refine Ext.bs ?_ GE235.out | refine Ext.bs ?_ GE236.out | refine Ext.bs ?_ GE270.out) | exact HB.out | exact .refl _ _)⟩⟩
              ·
               rw [if_neg c77] at H
               have c77b0 : (x17_49 == 0) = false := beq_eq_false_iff_ne.mpr c77
               have c77b1 : (x17_49 != 0) = true := bne_iff_ne.mpr c77
               (first | rw [c77b0] | (simp only [i64_w, i32_w]; rw [c77b0]) | skip)
               have H' := Aside0.mk H
               clear H
               go_wp2
               go_meet
               case rel => exact ⟨_, (false), (by first | rfl | (simp; done) | (simp [*]; done)), H', ⟨by have := HJ4.out; have := HJ26.out; have := HJ49.out; first | omega | exact Nat.le_refl _⟩, ⟨by exact BK234.out⟩, ⟨by exact BK235.out⟩, ⟨by exact BK236.out⟩, ⟨by exact BK270.out⟩, ⟨by repeat (first | (with_reducible first | exact HB.out | apply Ext.ba | apply Ext.bn | apply Ext.bd | refine Ext.bs ?_ GE234.out | refine Ext.bs ?_ GE235.out | refine Ext.bs ?_ GE236.out | refine Ext.bs ?_ GE270.out) | exact HB.out | exact .refl _ _)⟩⟩
             case rest =>
              clear HC76
              try clear c1
              try clear c2
              try clear p2
              try clear c3
              try clear c4
              try clear c5
              try clear q5
              try clear c6
              try clear p6
              try clear c7
              try clear c8
              try clear c9
              try clear c10
              try clear c11
              try clear c11b0
              try clear c11b1
              try clear c12
              try clear c13
              try clear c14
              try clear c17
              try clear c18
              try clear c20
              try clear c21
              try clear c28
              try clear c29
              try clear c31
              try clear c39
              try clear c39b0
              try clear c39b1
              try clear c40
              try clear c40b0
              try clear c40b1
              try clear c41
              try clear c43
              try clear c43b0
              try clear c43b1
              try clear c44
              try clear c44b0
              try clear c44b1
              try clear c46
              try clear c46b0
              try clear c47
              try clear c47b0
              try clear c47b1
              try clear c48
              try clear q52
              try clear c54
              try clear q54
              try clear c62
              try clear c63
              try clear c64
              try clear p64
              try clear c66
              try clear c67
              try clear c69
              try clear c69b0
              try clear c69b1
              try clear c72
              try clear c73
              try clear c74
              try clear c77
              try clear c77b0
              try clear c77b1
              try clear c78
              try clear c78b0
              try clear c78b1
              try clear c78b2
              try clear c79
              try clear c79b0
              try clear c80
              try clear c81
              try clear c82
              try clear c84
              try clear c85
              try clear c87
              try clear c88
              try clear c89
              try clear c91
              try clear c92
              try clear c94
              try clear c96
              try clear c96b0
              try clear c96b1
              try clear c96b2
              try clear c97
              try clear c97b0
              try clear c98
              try clear c99
              try clear c100
              try clear c102
              try clear c103
              try clear c105
              try clear c107
              try clear c108
              try clear c109
              try clear c111
              try clear c112
              try clear c114
              try clear c116
              try clear c117
              try clear c118
              try clear c120
              try clear c121
              try clear c123
              try clear hcz101_0
              try clear hcz101_1
              try clear hcz101_2
              try clear hcz101_3
              try clear hcz104_0
              try clear hcz104_1
              try clear hcz104_2
              try clear hcz104_3
              try clear hcz106_0
              try clear hcz106_1
              try clear hcz106_2
              try clear hcz106_3
              try clear hcz110_0
              try clear hcz110_1
              try clear hcz110_2
              try clear hcz110_3
              try clear hcz113_0
              try clear hcz113_1
              try clear hcz113_2
              try clear hcz113_3
              try clear hcz115_0
              try clear hcz115_1
              try clear hcz115_2
              try clear hcz115_3
              try clear hcz119_0
              try clear hcz119_1
              try clear hcz119_2
              try clear hcz119_3
              try clear hcz122_0
              try clear hcz122_1
              try clear hcz122_2
              try clear hcz122_3
              try clear hcz124_0
              try clear hcz124_1
              try clear hcz124_2
              try clear hcz124_3
              try clear hcz15_0
              try clear hcz15_1
              try clear hcz15_2
              try clear hcz15_3
              try clear hcz19_0
              try clear hcz19_1
              try clear hcz19_2
              try clear hcz19_3
              try clear hcz30_0
              try clear hcz30_1
              try clear hcz30_2
              try clear hcz30_3
              try clear hcz32_0
              try clear hcz32_1
              try clear hcz32_2
              try clear hcz32_3
              try clear hcz33_0
              try clear hcz33_1
              try clear hcz33_2
              try clear hcz33_3
              try clear hcz35_0
              try clear hcz35_1
              try clear hcz35_2
              try clear hcz35_3
              try clear hcz37_0
              try clear hcz37_1
              try clear hcz37_2
              try clear hcz37_3
              try clear hcz65_0
              try clear hcz65_1
              try clear hcz65_2
              try clear hcz65_3
              try clear hcz68_0
              try clear hcz68_1
              try clear hcz68_2
              try clear hcz68_3
              try clear hcz75_0
              try clear hcz75_1
              try clear hcz75_2
              try clear hcz75_3
              try clear hcz83_0
              try clear hcz83_1
              try clear hcz83_2
              try clear hcz83_3
              try clear hcz86_0
              try clear hcz86_1
              try clear hcz86_2
              try clear hcz86_3
              try clear hcz90_0
              try clear hcz90_1
              try clear hcz90_2
              try clear hcz90_3
              try clear hcz93_0
              try clear hcz93_1
              try clear hcz93_2
              try clear hcz93_3
              try clear hcz95_0
              try clear hcz95_1
              try clear hcz95_2
              try clear hcz95_3
              try clear hfz101_0
              try clear hfz101_1
              try clear hfz101_2
              try clear hfz101_3
              try clear hfz104_0
              try clear hfz104_1
              try clear hfz104_2
              try clear hfz104_3
              try clear hfz106_0
              try clear hfz106_1
              try clear hfz106_2
              try clear hfz106_3
              try clear hfz110_0
              try clear hfz110_1
              try clear hfz110_2
              try clear hfz110_3
              try clear hfz113_0
              try clear hfz113_1
              try clear hfz113_2
              try clear hfz113_3
              try clear hfz115_0
              try clear hfz115_1
              try clear hfz115_2
              try clear hfz115_3
              try clear hfz119_0
              try clear hfz119_1
              try clear hfz119_2
              try clear hfz119_3
              try clear hfz122_0
              try clear hfz122_1
              try clear hfz122_2
              try clear hfz122_3
              try clear hfz124_0
              try clear hfz124_1
              try clear hfz124_2
              try clear hfz124_3
              try clear hfz15_0
              try clear hfz15_1
              try clear hfz15_2
              try clear hfz15_3
              try clear hfz19_0
              try clear hfz19_1
              try clear hfz19_2
              try clear hfz19_3
              try clear hfz30_0
              try clear hfz30_1
              try clear hfz30_2
              try clear hfz30_3
              try clear hfz32_0
              try clear hfz32_1
              try clear hfz32_2
              try clear hfz32_3
              try clear hfz33_0
              try clear hfz33_1
              try clear hfz33_2
              try clear hfz33_3
              try clear hfz35_0
              try clear hfz35_1
              try clear hfz35_2
              try clear hfz35_3
              try clear hfz37_0
              try clear hfz37_1
              try clear hfz37_2
              try clear hfz37_3
              try clear hfz65_0
              try clear hfz65_1
              try clear hfz65_2
              try clear hfz65_3
              try clear hfz68_0
              try clear hfz68_1
              try clear hfz68_2
              try clear hfz68_3
              try clear hfz75_0
              try clear hfz75_1
              try clear hfz75_2
              try clear hfz75_3
              try clear hfz83_0
              try clear hfz83_1
              try clear hfz83_2
              try clear hfz83_3
              try clear hfz86_0
              try clear hfz86_1
              try clear hfz86_2
              try clear hfz86_3
              try clear hfz90_0
              try clear hfz90_1
              try clear hfz90_2
              try clear hfz90_3
              try clear hfz93_0
              try clear hfz93_1
              try clear hfz93_2
              try clear hfz93_3
              try clear hfz95_0
              try clear hfz95_1
              try clear hfz95_2
              try clear hfz95_3
              try clear p2
              try clear p6
              try clear p64
              try clear q054
              try clear q5
              try clear q52
              try clear q54
              obtain ⟨kq, x8_75, rfl, HA, HJ75, BK234, BK235, BK236, BK270, HB⟩ := hcut
              cases kq with
              | zero => exact absurd HA.out (by simp [terrierlaw05_MetaTurns.j3])
              | succ kj75 =>
               have H := HA.out
               clear HA
               simp only [terrierlaw05_MetaTurns.j3] at H
               obtain rfl := Option.some.inj H
               go_wp2
               go_ret
               exact ⟨by first | rfl | (simp [errW_none, errW_some] <;> rfl) | (simp only [← hji42]; first | rfl | (simp [errW_none, errW_some] <;> rfl)) | (simp [*, errW_none, errW_some] <;> rfl), by repeat (first | (with_reducible first | exact HB.out | apply Ext.ba | apply Ext.bn | apply Ext.bd | refine Ext.bs ?_ GE234.out | refine Ext.bs ?_ GE235.out | refine Ext.bs ?_ GE236.out | refine Ext.bs ?_ GE270.out) | exact HB.out | exact .refl _ _)⟩
          · rw [if_neg c48] at H; exact absurd H (by simp)
         · rw [if_neg c47] at H; exact absurd H (by simp)
        · rw [if_neg c44] at H; exact absurd H (by simp)
       · rw [if_neg c43] at H; exact absurd H (by simp)

/-- THE ONE PURE STATEMENT of terrierlaw05_MetaTurns: yours. -/
def terrierlaw05_MetaTurns.Pure : Prop := ∀ (a0_0 : Int) (a0_1 : Int) (a0_2 : Int) (a0_3 : Int) (a1_0 : Int) (a1_1 : Int) (a1_2 : Int) (a1_3 : Int) (a2_0 : Int) (a2_1 : Int) (a2_2 : Int) (a2_3 : Int) (a3 : Int), (ok24 (⟨a0_0, a0_1, a0_2, a0_3⟩ : S24)) → (ok24 (⟨a1_0, a1_1, a1_2, a1_3⟩ : S24)) → (ok24 (⟨a2_0, a2_1, a2_2, a2_3⟩ : S24)) → ((Lit.int .i64 a3).wf = true) → ∃ k, terrierlaw05_MetaTurns.f k a0_0 a0_1 a0_2 a0_3 a1_0 a1_1 a1_2 a1_3 a2_0 a2_1 a2_2 a2_3 a3 = some true
theorem terrierlaw05_MetaTurns.walk (P : terrierlaw05_MetaTurns.Pure) (a0_0 : Int) (a0_1 : Int) (a0_2 : Int) (a0_3 : Int) (a1_0 : Int) (a1_1 : Int) (a1_2 : Int) (a1_3 : Int) (a2_0 : Int) (a2_1 : Int) (a2_2 : Int) (a2_3 : Int) (a3 : Int) (w : World) (hk0 : ok24 (⟨a0_0, a0_1, a0_2, a0_3⟩ : S24)) (hk1 : ok24 (⟨a1_0, a1_1, a1_2, a1_3⟩ : S24)) (hk2 : ok24 (⟨a2_0, a2_1, a2_2, a2_3⟩ : S24)) (hk3 : (Lit.int .i64 a3).wf = true) :
  Calls Try.prog 7 #[.agg #[.int .u64 a0_0, .int .i64 a0_1, .int .i64 a0_2, .int .i64 a0_3], .agg #[.int .u64 a1_0, .int .i64 a1_1, .int .i64 a1_2, .int .i64 a1_3], .agg #[.int .u64 a2_0, .int .i64 a2_1, .int .i64 a2_2, .int .i64 a2_3], .int .i64 a3] w fun e w' => e = .returned (.bool true) ∧ Below w.heap.size w w' := by
 obtain ⟨k, h⟩ := P a0_0 a0_1 a0_2 a0_3 a1_0 a1_1 a1_2 a1_3 a2_0 a2_1 a2_2 a2_3 a3 hk0 hk1 hk2 hk3
 refine (terrierlaw05_MetaTurns.calls k a0_0 a0_1 a0_2 a0_3 a1_0 a1_1 a1_2 a1_3 a2_0 a2_1 a2_2 a2_3 a3 true w  h).mono ?_
 rintro e w' ⟨rfl, hd⟩
 exact ⟨rfl, hd⟩

end Go.Proofs.Ytfkihcdonddcoaa.PT
