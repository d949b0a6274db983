-- Written by wip/printx.py, a program of this work over the kit's print, for this claim.
import Derived.Test.YtandeendeoempaaPCx0
import Derived.Test.YtandeendeoempaaPCx2
import Derived.Test.YtandeendeoempaaPCx4
import Derived.Test.YtandeendeoempaaPCx5
import Derived.Test.YtandeendeoempaaPCx6
namespace Go.Proofs.Ytandeendeoempaa.PC
open Go.RowKit Go.Proofs.YtandeendeoempaaW.PrintWords Go.Proofs.YtandeendeoempaaW.PrintLast Go.Proofs.YtandeendeoempaaW.PrintMore
attribute [local go_sem] max2_int min2_int max_two min_two max_three min_three max_four min_four   -- for this text's walks alone
attribute [local go_sem] Ext.pick_u8 Ext.pick_u32 Ext.pick_u64
set_option linter.unusedVariables false
set_option linter.unusedSimpArgs false

@[reducible] def zb12_0 : Array Bool := #[false, false, false, false, false, false, false, false, false, false, false]
@[reducible] def zb12_1 : Array Bool := #[true, false, false, false, false, false, false, false, false, false, false]

/-! ### page_Encode: function 12 -/
mutual
def page_Encode.l0 : Nat → List Int → List (S44) → Int → Int → Int → Int → Int → List (S44) → List (S60) → List Int → List Int → Option (List Int × Int)
 | 0, _, _, _, _, _, _, _, _, _, _, _ => none
 | k + 1, x6, x37, x38, x39, x154000, x154001, x154002, x154003, x154004, x154005, x154006 => if x39 < x38 then (if 0 ≤ x39 then (if x39 < (x37.length : Int) then ((page_put.f k x6 (IntKind.u64.wrap ((((rd_T44 x37 x39).f0).length : Int))) 1).bind fun t171 => ((page_put.f k t171 (IntKind.u64.wrap ((rd_T44 x37 x39).f2)) 2).bind fun t174 => (if t174.length + ((rd_T44 x37 x39).f0).length < 140737488355328 then ((some (t174 ++ ((rd_T44 x37 x39).f0) : List Int)).bind fun y177 => (if ((rd_T44 x37 x39).f2) > 64 then ((page_put.f k y177 (IntKind.u64.wrap ((rd_T44 x37 x39).f3)) 4).bind fun t180 => (page_Encode.l0 k t180 x37 x38 (wrap64 (x39 + 1)) x154000 x154001 x154002 x154003 x154004 x154005 x154006)) else (if y177.length + ((rd_T44 x37 x39).f1).length < 140737488355328 then (page_Encode.l0 k (y177 ++ ((rd_T44 x37 x39).f1)) x37 x38 (wrap64 (x39 + 1)) x154000 x154001 x154002 x154003 x154004 x154005 x154006) else (none)))) else (none)))) else (none)) else (none)) else (page_Encode.l1 k x6 x154004 (x154004.length : Int) 0 x154000 x154001 x154002 x154003 x154004 x154005 x154006)
def page_Encode.l1 : Nat → List Int → List (S60) → Int → Int → Int → Int → Int → List (S44) → List (S60) → List Int → List Int → Option (List Int × Int)
 | 0, _, _, _, _, _, _, _, _, _, _, _ => none
 | k + 1, x6, x71, x72, x73, x154000, x154001, x154002, x154003, x154004, x154005, x154006 => if x73 < x72 then (if 0 ≤ x73 then (if x73 < (x71.length : Int) then ((page_put.f k x6 (IntKind.u64.wrap ((((rd_T60 x71 x73).f0).length : Int))) 1).bind fun t188 => (if t188.length + ((rd_T60 x71 x73).f0).length < 140737488355328 then ((page_put.f k (t188 ++ ((rd_T60 x71 x73).f0)) (IntKind.u64.wrap ((rd_T60 x71 x73).f1)) 4).bind fun t194 => (page_Encode.l1 k t194 x71 x72 (wrap64 (x73 + 1)) x154000 x154001 x154002 x154003 x154004 x154005 x154006)) else (none))) else (none)) else (none)) else (if x6.length + x154005.length < 140737488355328 then (page_Encode.l2 k (x6 ++ x154005) x154006 (x154006.length : Int) 0) else (none))
def page_Encode.l2 : Nat → List Int → List Int → Int → Int → Option (List Int × Int)
 | 0, _, _, _, _ => none
 | k + 1, x6, x97, x98, x99 => if x99 < x98 then (if 0 ≤ x99 then (if x99 < (x97.length : Int) then ((page_put.f k x6 (IntKind.u64.wrap (rd x97 x99)) 4).bind fun t201 => (page_Encode.l2 k t201 x97 x98 (wrap64 (x99 + 1)))) else (none)) else (none)) else (if 252 ≤ 281474976710656 then ((some (List.replicate 252 0 : List Int)).bind fun y204 => (if y204.length + x6.length < 140737488355328 then ((sum_Seal.f k (Ext.copyL y204 x6)).bind fun t210 => (some (t210, 0))) else (none))) else (none))
end
def page_Encode.f (k : Nat) (a0_0 : Int) (a0_1 : Int) (a0_2 : Int) (l0_3 : List (S44)) (l0_4 : List (S60)) (l0_5 : List Int) (l0_6 : List Int) : Option (List Int × Int) := (page_Right.f k a0_0 a0_1 a0_2 l0_3 l0_4 l0_5 l0_6).bind fun t154 => (if t154 = true then ((page_things.f a0_0 a0_1 a0_2 l0_3 l0_4 l0_5 l0_6).bind fun bt155 => ((page_put.f k ([] : List Int) (IntKind.u64.wrap (a0_0)) 1).bind fun t157 => ((page_put.f k t157 a0_1 8).bind fun t160 => ((page_put.f k t160 (IntKind.u64.wrap (a0_2)) 4).bind fun t163 => ((page_put.f k t163 (IntKind.u64.wrap (bt155.1)) 2).bind fun t166 => (page_Encode.l0 k t166 l0_3 (l0_3.length : Int) 0 a0_0 a0_1 a0_2 l0_3 l0_4 l0_5 l0_6)))))) else (some (([] : List Int), 4)))
theorem page_Encode.mono_l : ∀ k, (∀ y0 y1 y2 y3 y4 y5 y6 y7 y8 y9 y10, LeO (page_Encode.l0 k y0 y1 y2 y3 y4 y5 y6 y7 y8 y9 y10) (page_Encode.l0 (k + 1) y0 y1 y2 y3 y4 y5 y6 y7 y8 y9 y10)) ∧ (∀ y0 y1 y2 y3 y4 y5 y6 y7 y8 y9 y10, LeO (page_Encode.l1 k y0 y1 y2 y3 y4 y5 y6 y7 y8 y9 y10) (page_Encode.l1 (k + 1) y0 y1 y2 y3 y4 y5 y6 y7 y8 y9 y10)) ∧ (∀ y0 y1 y2 y3, LeO (page_Encode.l2 k y0 y1 y2 y3) (page_Encode.l2 (k + 1) y0 y1 y2 y3))
 | 0 => ⟨fun _ _ _ _ _ _ _ _ _ _ _ r h => by simp [page_Encode.l0] at h, fun _ _ _ _ _ _ _ _ _ _ _ r h => by simp [page_Encode.l1] at h, fun _ _ _ _ r h => by simp [page_Encode.l2] at h⟩
 | k + 1 => by
  obtain ⟨ih0, ih1, ih2⟩ := page_Encode.mono_l k; refine ⟨?_, ?_, ?_⟩
  ·
   intro y0 y1 y2 y3 y4 y5 y6 y7 y8 y9 y10
   unfold page_Encode.l0
   repeat' first
   | (with_reducible exact ih0 _ _ _ _ _ _ _ _ _ _ _)
   | (with_reducible exact ih1 _ _ _ _ _ _ _ _ _ _ _)
   | (with_reducible exact ih2 _ _ _ _)
   | (with_reducible exact page_Right.mono _ _ _ _ _ _ _ _)
   | (with_reducible exact page_put.mono _ _ _ _)
   | (with_reducible exact sum_Seal.mono _ _)
   | (with_reducible exact LeO.refl _)
   | (with_reducible exact LeO.none _)
   | (with_reducible refine LeO.ite ?_ ?_)
   | (with_reducible refine LeO.bind ?_ (fun _ => ?_))
   | exact ih0 _ _ _ _ _ _ _ _ _ _ _
   | exact ih1 _ _ _ _ _ _ _ _ _ _ _
   | exact ih2 _ _ _ _
   | exact page_Right.mono _ _ _ _ _ _ _ _
   | exact page_put.mono _ _ _ _
   | exact sum_Seal.mono _ _
   | exact LeO.none _
   | refine LeO.ite ?_ ?_
   | refine LeO.bind ?_ (fun _ => ?_)
  ·
   intro y0 y1 y2 y3 y4 y5 y6 y7 y8 y9 y10
   unfold page_Encode.l1
   repeat' first
   | (with_reducible exact ih0 _ _ _ _ _ _ _ _ _ _ _)
   | (with_reducible exact ih1 _ _ _ _ _ _ _ _ _ _ _)
   | (with_reducible exact ih2 _ _ _ _)
   | (with_reducible exact page_Right.mono _ _ _ _ _ _ _ _)
   | (with_reducible exact page_put.mono _ _ _ _)
   | (with_reducible exact sum_Seal.mono _ _)
   | (with_reducible exact LeO.refl _)
   | (with_reducible exact LeO.none _)
   | (with_reducible refine LeO.ite ?_ ?_)
   | (with_reducible refine LeO.bind ?_ (fun _ => ?_))
   | exact ih0 _ _ _ _ _ _ _ _ _ _ _
   | exact ih1 _ _ _ _ _ _ _ _ _ _ _
   | exact ih2 _ _ _ _
   | exact page_Right.mono _ _ _ _ _ _ _ _
   | exact page_put.mono _ _ _ _
   | exact sum_Seal.mono _ _
   | exact LeO.none _
   | refine LeO.ite ?_ ?_
   | refine LeO.bind ?_ (fun _ => ?_)
  ·
   intro y0 y1 y2 y3
   unfold page_Encode.l2
   repeat' first
   | (with_reducible exact ih0 _ _ _ _ _ _ _ _ _ _ _)
   | (with_reducible exact ih1 _ _ _ _ _ _ _ _ _ _ _)
   | (with_reducible exact ih2 _ _ _ _)
   | (with_reducible exact page_Right.mono _ _ _ _ _ _ _ _)
   | (with_reducible exact page_put.mono _ _ _ _)
   | (with_reducible exact sum_Seal.mono _ _)
   | (with_reducible exact LeO.refl _)
   | (with_reducible exact LeO.none _)
   | (with_reducible refine LeO.ite ?_ ?_)
   | (with_reducible refine LeO.bind ?_ (fun _ => ?_))
   | exact ih0 _ _ _ _ _ _ _ _ _ _ _
   | exact ih1 _ _ _ _ _ _ _ _ _ _ _
   | exact ih2 _ _ _ _
   | exact page_Right.mono _ _ _ _ _ _ _ _
   | exact page_put.mono _ _ _ _
   | exact sum_Seal.mono _ _
   | exact LeO.none _
   | refine LeO.ite ?_ ?_
   | refine LeO.bind ?_ (fun _ => ?_)
theorem page_Encode.mono : ∀ a0 a1 a2 a3 a4 a5 a6 k, LeO (page_Encode.f k a0 a1 a2 a3 a4 a5 a6) (page_Encode.f (k + 1) a0 a1 a2 a3 a4 a5 a6) := by
 intro a0 a1 a2 a3 a4 a5 a6 k
 obtain ⟨ih0, ih1, ih2⟩ := page_Encode.mono_l k; unfold page_Encode.f
 repeat' first
   | (with_reducible exact ih0 _ _ _ _ _ _ _ _ _ _ _)
   | (with_reducible exact ih1 _ _ _ _ _ _ _ _ _ _ _)
   | (with_reducible exact ih2 _ _ _ _)
   | (with_reducible exact page_Right.mono _ _ _ _ _ _ _ _)
   | (with_reducible exact page_put.mono _ _ _ _)
   | (with_reducible exact sum_Seal.mono _ _)
   | (with_reducible exact LeO.refl _)
   | (with_reducible exact LeO.none _)
   | (with_reducible refine LeO.ite ?_ ?_)
   | (with_reducible refine LeO.bind ?_ (fun _ => ?_))
   | exact ih0 _ _ _ _ _ _ _ _ _ _ _
   | exact ih1 _ _ _ _ _ _ _ _ _ _ _
   | exact ih2 _ _ _ _
   | exact page_Right.mono _ _ _ _ _ _ _ _
   | exact page_put.mono _ _ _ _
   | exact sum_Seal.mono _ _
   | exact LeO.none _
   | refine LeO.ite ?_ ?_
   | refine LeO.bind ?_ (fun _ => ?_)
def page_Encode.T4 : Bool × List (List Nat × List Nat) := (true, [([], []), ([0], [0]), ([1], [1]), ([2], [2]), ([], []), ([4], [4]), ([3, 5, 3], [3, 5]), ([], []), ([7], [7]), ([8], [8]), ([6, 9, 6], [6, 9]), ([], []), ([11], [11]), ([10, 12, 10], [10, 12]), ([13, 13, 0, 1, 2, 3, 4, 5, 6, 7, 8, 9, 10, 11, 12, 13], [13])])
def page_Encode.B4 : List Nat := [0, 1, 3, 7, 0, 16, 63, 0, 128, 384, 1023, 0, 2048, 8191, 16383]
theorem page_Encode.tab4 : rtab .any (opsOf Try.f12 4) = page_Encode.T4 := by kernel_rfl
theorem page_Encode.bits4 : waitsOk page_Encode.T4.2 page_Encode.B4 = true := by kernel_rfl
def page_Encode.T8 : Bool × List (List Nat × List Nat) := (true, [([], []), ([], []), ([1], [1]), ([2], [2]), ([3], [3]), ([0, 4], [0, 4]), ([], []), ([6], [6]), ([7], [7]), ([5, 8, 5], [5, 8]), ([9, 9, 0, 1, 2, 3, 4, 5, 6, 7, 8, 9], [0, 9])])
def page_Encode.B8 : List Nat := [0, 0, 2, 6, 14, 31, 0, 64, 192, 511, 1023]
theorem page_Encode.tab8 : rtab .any (opsOf Try.f12 8) = page_Encode.T8 := by kernel_rfl
theorem page_Encode.bits8 : waitsOk page_Encode.T8.2 page_Encode.B8 = true := by kernel_rfl
def page_Encode.T17 : Bool × List (List Nat × List Nat) := (true, [([], []), ([], []), ([1], [1]), ([2], [2]), ([3], [3]), ([0, 4], [0, 4]), ([], []), ([6], [6]), ([5, 7, 5], [5, 7]), ([8, 8, 0, 1, 2, 3, 4, 5, 6, 7, 8], [0, 8])])
def page_Encode.B17 : List Nat := [0, 0, 2, 6, 14, 31, 0, 64, 255, 511]
theorem page_Encode.tab17 : rtab .any (opsOf Try.f12 17) = page_Encode.T17 := by kernel_rfl
theorem page_Encode.bits17 : waitsOk page_Encode.T17.2 page_Encode.B17 = true := by kernel_rfl
set_option maxHeartbeats 8000000 in
set_option maxRecDepth 100000 in
theorem page_Encode.calls (k : Nat) (a0_0 : Int) (a0_1 : Int) (a0_2 : Int) (A0_3 : Option Addr) (c0_3 : Nat) (l0_3 : List (S44)) (A0_4 : Option Addr) (c0_4 : Nat) (l0_4 : List (S60)) (A0_5 : Option Addr) (c0_5 : Nat) (l0_5 : List Int) (A0_6 : Option Addr) (c0_6 : Nat) (l0_6 : List Int) (r1 : List Int) (r2 : Int) (w : World) (hr0_3 : Kd.C k44 w A0_3 l0_3.length l0_3) (hc0_3 : l0_3.length ≤ c0_3) (hr0_4 : Kd.C k60 w A0_4 l0_4.length l0_4) (hc0_4 : l0_4.length ≤ c0_4) (hr0_5 : Kd.C (Kd.int .u8) w A0_5 l0_5.length l0_5) (hc0_5 : l0_5.length ≤ c0_5) (hr0_6 : Kd.C (Kd.int .i64) w A0_6 l0_6.length l0_6) (hc0_6 : l0_6.length ≤ c0_6) (h : page_Encode.f k a0_0 a0_1 a0_2 l0_3 l0_4 l0_5 l0_6 = some (r1, r2)) :
  Calls Try.prog 12 #[.agg #[.int .i64 a0_0, .int .u64 a0_1, .int .i64 a0_2, .slice A0_3 l0_3.length c0_3, .slice A0_4 l0_4.length c0_4, .slice A0_5 l0_5.length c0_5, .slice A0_6 l0_6.length c0_6]] w fun e w' => ∃ v0_ : Value, e = .returned (.tuple #[v0_, .int .i64 r2]) ∧ Kd.R (Kd.int .u8) 5 w' w.heap.size (fun _ => True) v0_ r1 ∧ Below w.heap.size w w' := by
 have hu28 := Try.underlying28; have hu44 := Try.underlying44; have hu60 := Try.underlying60; have HR0_3 := Aside0.mk hr0_3; have HC0_3 := Aside0.mk hc0_3; clear hr0_3 hc0_3; have HR0_4 := Aside0.mk hr0_4; have HC0_4 := Aside0.mk hc0_4; clear hr0_4 hc0_4; have HR0_5 := Aside0.mk hr0_5; have HC0_5 := Aside0.mk hc0_5; clear hr0_5 hc0_5; have HR0_6 := Aside0.mk hr0_6; have HC0_6 := Aside0.mk hc0_6; clear hr0_6 hc0_6; have HB := Ext.a (Below.refl w.heap.size w); have H := h; unfold page_Encode.f at H; clear h; replace H := Option.bind_eq_some_iff.mp H; obtain ⟨t154, A20, H⟩ := H; (try dsimp only at H); have A2 := Aside0.mk A20; clear A20
 by_cases c3 : t154 = true
 ·
  subst c3; rw [if_pos rfl] at H; replace H := Option.bind_eq_some_iff.mp H; obtain ⟨⟨t155, t156⟩, A40, H⟩ := H; (try dsimp only at H); have A4 := Aside0.mk A40; clear A40; replace H := Option.bind_eq_some_iff.mp H; obtain ⟨t157, A50, H⟩ := H; (try dsimp only at H); have A5 := Aside0.mk A50; clear A50; replace H := Option.bind_eq_some_iff.mp H; obtain ⟨t160, A60, H⟩ := H; (try dsimp only at H); have A6 := Aside0.mk A60; clear A60; replace H := Option.bind_eq_some_iff.mp H; obtain ⟨t163, A70, H⟩ := H; (try dsimp only at H); have A7 := Aside0.mk A70; clear A70; replace H := Option.bind_eq_some_iff.mp H; obtain ⟨t166, A80, H⟩ := H; (try dsimp only at H); have A8 := Aside0.mk A80; clear A80; have H' := Aside0.mk H; clear H
  go_enter Try.func12, Try.ntmps12
  try go_wp2_with (first | ((with_reducible refine gate_dst (N := 1) rfl ?_); refine box_event ?hg (N := 1) ?hd (cs := #[.int .i64 a0_0, .int .u64 a0_1, .int .i64 a0_2, .slice A0_3 l0_3.length c0_3, .slice A0_4 l0_4.length c0_4, .slice A0_5 l0_5.length c0_5, .slice A0_6 l0_6.length c0_6]) (t := 28) ?hr ?_; (case hd => rfl); (case hg => rfl); (case hr => first | (go_simp; done) | (go_simp; rfl)); intro gb153 hg w9 hbox hb; have BK153 := Ext.a (hbox); have GW153 := Ext.gw hg (below_size (Ext.nB HB.out)); have GE153 := Ext.gw hg (below_size (Ext.nB HB.out)); replace HB := Ext.a (below_step (Ext.nB HB.out) hb); clear hb hbox hg; have hcz10 := Ext.cells7 BK153.out; have hfz10 := Ext.froz7 BK153.out) | ((with_reducible refine gate_dst (N := 14) rfl ?_); refine Ext.struct_load_blk (hgd := ?hg) (t := 28) (x := ?vx_14) (ho := ?ho) (haddr := ?ha) Try.underlying28 rfl (by kernel_rfl) BK153.out ?_; (case ho => rfl); (case hg => rfl); (case ha => rfl)) | ((with_reducible refine gate_callee (f := 14) rfl ?_); refine Ext.gs (some 15) rfl rfl Try.func14 #[.agg #[.int .i64 a0_0, .int .u64 a0_1, .int .i64 a0_2, .slice A0_3 l0_3.length c0_3, .slice A0_4 l0_4.length c0_4, .slice A0_5 l0_5.length c0_5, .slice A0_6 l0_6.length c0_6]] rfl ?_; (with_reducible refine (page_Right.calls k a0_0 a0_1 a0_2 _ _ l0_3 _ _ l0_4 _ _ l0_5 _ _ l0_6 true _ ?side1 ?side2 ?side3 ?side4 ?side5 ?side6 ?side7 ?side8 A2.out).mono ?_); (case side1 => first | exact Ext.kC HR0_3.out HB.out | exact Ext.nC HR0_3.out); (case side2 => exact HC0_3.out); (case side3 => first | exact Ext.kC HR0_4.out HB.out | exact Ext.nC HR0_4.out); (case side4 => exact HC0_4.out); (case side5 => first | exact Ext.kC HR0_5.out HB.out | exact Ext.nC HR0_5.out); (case side6 => exact HC0_5.out); (case side7 => first | exact Ext.kC HR0_6.out HB.out | exact Ext.nC HR0_6.out); (case side8 => exact HC0_6.out); rintro e w11 ⟨rfl, hb⟩; refine ⟨_, rfl, ?_⟩; replace BK153 := Ext.a (blk_below BK153.out hb); replace HB := Ext.a (below_step (Ext.s1 GE153.out HB.out) hb); (try clear hb); have hcz12 := Ext.cells7 BK153.out; have hfz12 := Ext.froz7 BK153.out) | ((with_reducible refine gate_dst (N := 18) rfl ?_); refine Ext.struct_load_blk (hgd := ?hg) (t := 28) (x := ?vx_18) (ho := ?ho) (haddr := ?ha) Try.underlying28 rfl (by kernel_rfl) BK153.out ?_; (case ho => rfl); (case hg => rfl); (case ha => rfl)) | ((with_reducible refine gate_callee (f := 24) rfl ?_); refine Ext.gs (some 19) rfl rfl Try.func24 #[.agg #[.int .i64 a0_0, .int .u64 a0_1, .int .i64 a0_2, .slice A0_3 l0_3.length c0_3, .slice A0_4 l0_4.length c0_4, .slice A0_5 l0_5.length c0_5, .slice A0_6 l0_6.length c0_6]] rfl ?_; (with_reducible refine (page_things.calls a0_0 a0_1 a0_2 _ _ l0_3 _ _ l0_4 _ _ l0_5 _ _ l0_6 t155 t156 _ ?side1 ?side2 ?side3 ?side4 ?side5 ?side6 ?side7 ?side8 A4.out).mono ?_); (case side1 => first | exact Ext.kC HR0_3.out HB.out | exact Ext.nC HR0_3.out); (case side2 => exact HC0_3.out); (case side3 => first | exact Ext.kC HR0_4.out HB.out | exact Ext.nC HR0_4.out); (case side4 => exact HC0_4.out); (case side5 => first | exact Ext.kC HR0_5.out HB.out | exact Ext.nC HR0_5.out); (case side6 => exact HC0_5.out); (case side7 => first | exact Ext.kC HR0_6.out HB.out | exact Ext.nC HR0_6.out); (case side8 => exact HC0_6.out); rintro e w13 ⟨rfl, hb⟩; refine ⟨_, rfl, ?_⟩; replace BK153 := Ext.a (blk_below BK153.out hb); replace HB := Ext.a (below_step (Ext.s1 GE153.out HB.out) hb); (try clear hb)))
  replace BK153 := Ext.a (blk_drew BK153.out); replace HB := Ext.a (below_drew1 HB.out); refine start_ (n := 15) (S := fun w' => w'.cell? ⟨gb153, 0, none⟩ = some (.int .i64 a0_0) ∧ w'.cell? ⟨gb153, 1, none⟩ = some (.int .u64 a0_1) ∧ w'.cell? ⟨gb153, 2, none⟩ = some (.int .i64 a0_2) ∧ w'.cell? ⟨gb153, 3, none⟩ = some (.slice A0_3 l0_3.length c0_3) ∧ w'.cell? ⟨gb153, 4, none⟩ = some (.slice A0_4 l0_4.length c0_4) ∧ w'.cell? ⟨gb153, 5, none⟩ = some (.slice A0_5 l0_5.length c0_5) ∧ w'.cell? ⟨gb153, 6, none⟩ = some (.slice A0_6 l0_6.length c0_6)) (ds := []) #[false, false, false, false, false, false, false, false, false, false, false, false, false, false, false] (by kernel_rfl) rfl rfl ⟨(blk_cell BK153.out 0).trans rfl, (blk_cell BK153.out 1).trans rfl, (blk_cell BK153.out 2).trans rfl, (blk_cell BK153.out 3).trans rfl, (blk_cell BK153.out 4).trans rfl, (blk_cell BK153.out 5).trans rfl, (blk_cell BK153.out 6).trans rfl⟩ (fun hHeld => ?_); refine with_tabW page_Encode.tab4 page_Encode.bits4 (fun HT_ HW_ => ?_); generalize w13.drew = w14 at BK153 HB hHeld ⊢; refine pure_ (i := 0) (N := some 22) (v := ?_) (a' := ?_) #[true, false, false, false, false, false, false, false, false, false, false, false, false, false, false] rfl rfl (any_of HT_.out (by kernel_rfl)) (fun _ _ _ h => h) (Or.inl ⟨by rfl, ?_⟩) ?_ ?_; rotate_left
  · intro w'; go_simp; with_reducible rfl
  rotate_left
  · simp only [Act.put, Ext.sb, Ext.sz, Ext.ss, i64_w, i32_w]; rfl
  refine pure_ (i := 4) (N := some 26) (v := ?_) (a' := ?_) #[true, false, false, false, true, false, false, false, false, false, false, false, false, false, false] rfl rfl (any_of HT_.out (by kernel_rfl)) (fun _ _ _ h => h) (Or.inl ⟨by rfl, ?_⟩) ?_ ?_; rotate_left
  · intro w'; go_simp; with_reducible rfl
  rotate_left
  · simp only [Act.put, Ext.sb, Ext.sz, Ext.ss, i64_w, i32_w]; rfl
  refine pure_ (i := 7) (N := some 29) (v := ?_) (a' := ?_) #[true, false, false, false, true, false, false, true, false, false, false, false, false, false, false] rfl rfl (any_of HT_.out (by kernel_rfl)) (fun _ _ _ h => h) (Or.inl ⟨by rfl, ?_⟩) ?_ ?_; rotate_left
  · intro w'; go_simp; with_reducible rfl
  rotate_left
  · simp only [Act.put, Ext.sb, Ext.sz, Ext.ss, i64_w, i32_w]; rfl
  refine pure_ (i := 11) (N := some 33) (v := ?_) (a' := ?_) #[true, false, false, false, true, false, false, true, false, false, false, true, false, false, false] rfl rfl (any_of HT_.out (by kernel_rfl)) (fun _ _ _ h => h) (Or.inl ⟨by rfl, ?_⟩) ?_ ?_; rotate_left
  · intro w'; go_simp; with_reducible rfl
  rotate_left
  · simp only [Act.put, Ext.sb, Ext.sz, Ext.ss, i64_w, i32_w]; rfl
  refine pure_ (i := 12) (N := some 34) (v := ?_) (a' := ?_) #[true, false, false, false, true, false, false, true, false, false, false, true, true, false, false] rfl rfl (any_of HT_.out (by kernel_rfl)) (fun _ _ _ h => h) (Or.inl ⟨by rfl, ?_⟩) ?_ ?_; rotate_left
  · intro w'; go_simp; with_reducible rfl
  rotate_left
  · simp only [Act.put, Ext.sb, Ext.sz, Ext.ss, i64_w, i32_w]; rfl
  refine take_ (i := 1) (N := some 23) (v := ?_) (a' := ?_) #[true, true, false, false, true, false, false, true, false, false, false, true, true, false, false] rfl rfl (take_ofW HT_.out HW_.out (by kernel_rfl)) (fun _ _ _ h => h) (Or.inl ⟨by rfl, ?_⟩) hHeld ?_ ?_; rotate_left
  · rintro w' ⟨s0, s1, s2, s3, s4, s5, s6⟩; go_simp; with_reducible rfl
  rotate_left
  · simp only [Act.put, Ext.sb, Ext.sz, Ext.ss, i64_w, i32_w]; rfl
  refine pure_ (i := 2) (N := some 24) (v := ?_) (a' := ?_) #[true, true, true, false, true, false, false, true, false, false, false, true, true, false, false] rfl rfl (any_of HT_.out (by kernel_rfl)) (fun _ _ _ h => h) (Or.inl ⟨by rfl, ?_⟩) ?_ ?_; rotate_left
  · intro w'; go_simp; with_reducible rfl
  rotate_left
  · simp only [Act.put, Ext.sb, Ext.sz, Ext.ss, i64_w, i32_w]; rfl
  refine take_ (i := 5) (N := some 27) (v := ?_) (a' := ?_) #[true, true, true, false, true, true, false, true, false, false, false, true, true, false, false] rfl rfl (take_ofW HT_.out HW_.out (by kernel_rfl)) (fun _ _ _ h => h) (Or.inl ⟨by rfl, ?_⟩) hHeld ?_ ?_; rotate_left
  · rintro w' ⟨s0, s1, s2, s3, s4, s5, s6⟩; go_simp; with_reducible rfl
  rotate_left
  · simp only [Act.put, Ext.sb, Ext.sz, Ext.ss, i64_w, i32_w]; rfl
  refine take_ (i := 8) (N := some 30) (v := ?_) (a' := ?_) #[true, true, true, false, true, true, false, true, true, false, false, true, true, false, false] rfl rfl (take_ofW HT_.out HW_.out (by kernel_rfl)) (fun _ _ _ h => h) (Or.inl ⟨by rfl, ?_⟩) hHeld ?_ ?_; rotate_left
  · rintro w' ⟨s0, s1, s2, s3, s4, s5, s6⟩; go_simp; with_reducible rfl
  rotate_left
  · simp only [Act.put, Ext.sb, Ext.sz, Ext.ss, i64_w, i32_w]; rfl
  refine pure_ (i := 9) (N := some 31) (v := ?_) (a' := ?_) #[true, true, true, false, true, true, false, true, true, true, false, true, true, false, false] rfl rfl (any_of HT_.out (by kernel_rfl)) (fun _ _ _ h => h) (Or.inl ⟨by rfl, ?_⟩) ?_ ?_; rotate_left
  · intro w'; go_simp; with_reducible rfl
  rotate_left
  · simp only [Act.put, Ext.sb, Ext.sz, Ext.ss, i64_w, i32_w]; rfl
  refine one_ (i := 3) (N := some 25) #[true, true, true, true, true, true, false, true, true, true, false, true, true, false, false] rfl rfl (one_of HT_.out (by kernel_rfl)) (by decide) (fun K hK => ?_); refine goes_ Try.func25 (by kernel_rfl) rfl #[.slice none 0 0, .int .u64 (IntKind.u64.wrap (a0_0)), .int .i64 1] (by rfl) rfl rfl (by (try simp only [List.map_toArray, List.map_cons, List.map_nil]); first | done | rfl | (simp only [List.length_drop, List.length_take]; rfl)) ?_; refine (page_put.calls k (fun k_ => some k_ = (.slice none 0 0 : Value).ownBlock) (.slice none 0 0) ([] : List Int) (IntKind.u64.wrap (a0_0)) 1 t157 w _ ?side1 ?side2 A5.out).mono ?_
  (case side1 => exact Ext.s1 GE153.out HB.out)
  (case side2 => exact Kd.R_nil _ _ _ _ _)
  rintro e w15 ⟨v158, rfl, ho0, hb, hkp⟩; refine ⟨_, rfl, ?_⟩; replace BK153 := Ext.a (blk_kept (by exact BK153.out) hkp (fun hs_ => (fun e_ => by simp [Value.ownBlock] at e_) hs_)); have HO159 := Ext.a (Kd.R_mono (ok' := fun k_ => True) ho0 (fun k_ hk_ => trivial)); replace HB := Ext.a (hb); (try clear hb hkp ho0); obtain ⟨Ao16, co16, eo16⟩ := Kd.R_slice HO159.out
  (first | subst eo16 | (injection eo16 with f1_ f2_ f3_; have f4_ := f1_.symm; have f5_ := f3_.symm; clear f1_ f2_ f3_; subst f4_; subst f5_))
  refine hK.out _ _ ⟨(blk_cell BK153.out 0).trans rfl, (blk_cell BK153.out 1).trans rfl, (blk_cell BK153.out 2).trans rfl, (blk_cell BK153.out 3).trans rfl, (blk_cell BK153.out 4).trans rfl, (blk_cell BK153.out 5).trans rfl, (blk_cell BK153.out 6).trans rfl⟩ (fun hHeld => ?_); clear hK K; refine norm_ (a' := ?_) ?_ ?_; rotate_left
  · show Act.put _ (some 25) _ = _; simp only [Act.put, Ext.sb, Ext.sz, Ext.ss, i64_w, i32_w]; rfl
  refine one_ (i := 6) (N := some 28) #[true, true, true, true, true, true, true, true, true, true, false, true, true, false, false] rfl rfl (one_of HT_.out (by kernel_rfl)) (by decide) (fun K hK => ?_); refine goes_ Try.func25 (by kernel_rfl) rfl #[.slice Ao16 t157.length co16, .int .u64 a0_1, .int .i64 8] (by rfl) rfl rfl (by (try simp only [List.map_toArray, List.map_cons, List.map_nil]); first | done | rfl | (simp only [List.length_drop, List.length_take]; rfl)) ?_
  with_reducible refine (page_put.calls k (fun k_ => some k_ = (.slice Ao16 t157.length co16 : Value).ownBlock) (.slice Ao16 t157.length co16) t157 a0_1 8 t160 w _ ?side1 ?side2 A6.out).mono ?_
  (case side1 => exact Ext.s1 GE153.out HB.out)
  (case side2 => exact Kd.R_tight rfl HO159.out)
  rintro e w17 ⟨v161, rfl, ho0, hb, hkp⟩; refine ⟨_, rfl, ?_⟩; replace BK153 := Ext.a (blk_kept (by exact BK153.out) hkp (fun hs_ => (fun e_ => (Kd.R_ne HO159.out BK153.out (by decide)) e_) hs_)); have HO162 := Ext.a (Kd.R_mono (ok' := fun k_ => True) ho0 (fun k_ hk_ => trivial)); replace HB := Ext.a (hb); clear HO159; (try clear hb hkp ho0); obtain ⟨Ao18, co18, eo18⟩ := Kd.R_slice HO162.out
  (first | subst eo18 | (injection eo18 with f1_ f2_ f3_; have f4_ := f1_.symm; have f5_ := f3_.symm; clear f1_ f2_ f3_; subst f4_; subst f5_))
  refine hK.out _ _ ⟨(blk_cell BK153.out 0).trans rfl, (blk_cell BK153.out 1).trans rfl, (blk_cell BK153.out 2).trans rfl, (blk_cell BK153.out 3).trans rfl, (blk_cell BK153.out 4).trans rfl, (blk_cell BK153.out 5).trans rfl, (blk_cell BK153.out 6).trans rfl⟩ (fun hHeld => ?_); clear hK K; refine norm_ (a' := ?_) ?_ ?_; rotate_left
  · show Act.put _ (some 28) _ = _; simp only [Act.put, Ext.sb, Ext.sz, Ext.ss, i64_w, i32_w]; rfl
  refine one_ (i := 10) (N := some 32) #[true, true, true, true, true, true, true, true, true, true, true, true, true, false, false] rfl rfl (one_of HT_.out (by kernel_rfl)) (by decide) (fun K hK => ?_); refine goes_ Try.func25 (by kernel_rfl) rfl #[.slice Ao18 t160.length co18, .int .u64 (IntKind.u64.wrap (a0_2)), .int .i64 4] (by rfl) rfl rfl (by (try simp only [List.map_toArray, List.map_cons, List.map_nil]); first | done | rfl | (simp only [List.length_drop, List.length_take]; rfl)) ?_
  with_reducible refine (page_put.calls k (fun k_ => some k_ = (.slice Ao18 t160.length co18 : Value).ownBlock) (.slice Ao18 t160.length co18) t160 (IntKind.u64.wrap (a0_2)) 4 t163 w _ ?side1 ?side2 A7.out).mono ?_
  (case side1 => exact Ext.s1 GE153.out HB.out)
  (case side2 => exact Kd.R_tight rfl HO162.out)
  rintro e w19 ⟨v164, rfl, ho0, hb, hkp⟩; refine ⟨_, rfl, ?_⟩; replace BK153 := Ext.a (blk_kept (by exact BK153.out) hkp (fun hs_ => (fun e_ => (Kd.R_ne HO162.out BK153.out (by decide)) e_) hs_)); have HO165 := Ext.a (Kd.R_mono (ok' := fun k_ => True) ho0 (fun k_ hk_ => trivial)); replace HB := Ext.a (hb); clear HO162; (try clear hb hkp ho0); obtain ⟨Ao20, co20, eo20⟩ := Kd.R_slice HO165.out
  (first | subst eo20 | (injection eo20 with f1_ f2_ f3_; have f4_ := f1_.symm; have f5_ := f3_.symm; clear f1_ f2_ f3_; subst f4_; subst f5_))
  refine hK.out _ _ ⟨(blk_cell BK153.out 0).trans rfl, (blk_cell BK153.out 1).trans rfl, (blk_cell BK153.out 2).trans rfl, (blk_cell BK153.out 3).trans rfl, (blk_cell BK153.out 4).trans rfl, (blk_cell BK153.out 5).trans rfl, (blk_cell BK153.out 6).trans rfl⟩ (fun hHeld => ?_); clear hK K; refine norm_ (a' := ?_) ?_ ?_; rotate_left
  · show Act.put _ (some 32) _ = _; simp only [Act.put, Ext.sb, Ext.sz, Ext.ss, i64_w, i32_w]; rfl
  refine one_ (i := 13) (N := some 35) #[true, true, true, true, true, true, true, true, true, true, true, true, true, true, false] rfl rfl (one_of HT_.out (by kernel_rfl)) (by decide) (fun K hK => ?_); refine goes_ Try.func25 (by kernel_rfl) rfl #[.slice Ao20 t163.length co20, .int .u64 (IntKind.u64.wrap (t155)), .int .i64 2] (by rfl) rfl rfl (by (try simp only [List.map_toArray, List.map_cons, List.map_nil]); first | done | rfl | (simp only [List.length_drop, List.length_take]; rfl)) ?_
  with_reducible refine (page_put.calls k (fun k_ => some k_ = (.slice Ao20 t163.length co20 : Value).ownBlock) (.slice Ao20 t163.length co20) t163 (IntKind.u64.wrap (t155)) 2 t166 w _ ?side1 ?side2 A8.out).mono ?_
  (case side1 => exact Ext.s1 GE153.out HB.out)
  (case side2 => exact Kd.R_tight rfl HO165.out)
  rintro e w21 ⟨v167, rfl, ho0, hb, hkp⟩; refine ⟨_, rfl, ?_⟩; replace BK153 := Ext.a (blk_kept (by exact BK153.out) hkp (fun hs_ => (fun e_ => (Kd.R_ne HO165.out BK153.out (by decide)) e_) hs_)); have HO168 := Ext.a (Kd.R_mono (ok' := fun k_ => True) ho0 (fun k_ hk_ => trivial)); replace HB := Ext.a (hb); clear HO165; (try clear hb hkp ho0); refine hK.out _ _ ⟨(blk_cell BK153.out 0).trans rfl, (blk_cell BK153.out 1).trans rfl, (blk_cell BK153.out 2).trans rfl, (blk_cell BK153.out 3).trans rfl, (blk_cell BK153.out 4).trans rfl, (blk_cell BK153.out 5).trans rfl, (blk_cell BK153.out 6).trans rfl⟩ (fun hHeld => ?_); clear hK K; refine norm_ (a' := ?_) ?_ ?_; rotate_left
  · show Act.put _ (some 35) _ = _; simp only [Act.put, Ext.sb, Ext.sz, Ext.ss, i64_w, i32_w]; rfl
  refine pure_ (i := 14) (N := some 6) (v := ?_) (a' := ?_) #[true, true, true, true, true, true, true, true, true, true, true, true, true, true, true] rfl rfl (any_of HT_.out (by kernel_rfl)) (fun _ _ _ h => h) (Or.inl ⟨by rfl, ?_⟩) ?_ ?_; rotate_left
  · intro w'; go_simp; with_reducible rfl
  rotate_left
  · simp only [Act.put, Ext.sb, Ext.sz, Ext.ss, i64_w, i32_w]; rfl
  refine done_ (done_of HT_.out (by kernel_rfl)) ?_; have hcz22 := Ext.cells7 BK153.out; have hfz22 := Ext.froz7 BK153.out
  try go_wp2
  go_loopg [6, 39] k (fun kq v6 v39 w' => ∃ (x6_1 : List Int) (x39_1 : Int), v39 = .int .i64 x39_1 ∧ Aside0 (page_Encode.l0 kq x6_1 l0_3 (l0_3.length : Int) x39_1 a0_0 a0_1 a0_2 l0_3 l0_4 l0_5 l0_6 = some (r1, r2)) ∧ Aside0 (kq ≤ k) ∧ Aside0 (Kd.R (Kd.int .u8) 5 w' w.heap.size (fun _ => True) v6 x6_1) ∧ Aside0 (w'.heap[gb153]? = some (.cells #[.int .i64 a0_0, .int .u64 a0_1, .int .i64 a0_2, (.slice A0_3 l0_3.length c0_3), (.slice A0_4 l0_4.length c0_4), (.slice A0_5 l0_5.length c0_5), (.slice A0_6 l0_6.length c0_6)] 28 (0, 0))) ∧ Aside0 (Below w.heap.size w w'))
  case atStart => exact ⟨(t166), (0), (by first | rfl | (simp; done) | (simp [*]; done)), H', ⟨Nat.le_refl _⟩, ⟨by exact Ext.nR HO168.out⟩, ⟨by exact BK153.out⟩, ⟨by exact Ext.s1 GE153.out HB.out⟩⟩
  case round =>
   clear H'; (try clear c1 c2 p2 c12 c14 hcz10 hcz12 hcz22 hfz10 hfz12 hfz22); obtain ⟨x6_1, x39_1, rfl, HA, HK1, HO_6, BK153, HB⟩ := hrel; cases gk with
   | zero => exact absurd HA.out (by simp [page_Encode.l0])
   | succ k1 =>
    have H := HA.out; clear HA; simp only [page_Encode.l0] at H
    by_cases c23 : x39_1 < (l0_3.length : Int)
    ·
     rw [if_pos c23] at H; have c23b0 := decide_eq_true c23; clear c23
     by_cases c24 : 0 ≤ x39_1
     ·
      rw [if_pos c24] at H; have c24b0 := decide_eq_true c24; clear c24
      by_cases c25 : x39_1 < (l0_3.length : Int)
      ·
       rw [if_pos c25] at H; have c25b0 := decide_eq_true c25; clear c25; replace H := Option.bind_eq_some_iff.mp H; obtain ⟨t171, A260, H⟩ := H; (try dsimp only at H); have A26 := Aside0.mk A260; clear A260; replace H := Option.bind_eq_some_iff.mp H; obtain ⟨t174, A270, H⟩ := H; (try dsimp only at H); have A27 := Aside0.mk A270; clear A270
       by_cases c28 : t174.length + ((rd_T44 l0_3 x39_1).f0).length < 140737488355328
       ·
        rw [if_pos c28] at H; have LMc28 := Aside0.mk c28; clear c28; obtain ⟨y177, hy177⟩ : ∃ y_ : List Int, y_ = (t174 ++ ((rd_T44 l0_3 x39_1).f0)) := ⟨_, rfl⟩
        replace H : (if ((rd_T44 l0_3 x39_1).f2) > 64 then ((page_put.f k1 y177 (IntKind.u64.wrap ((rd_T44 l0_3 x39_1).f3)) 4).bind fun t180 => (page_Encode.l0 k1 t180 l0_3 (l0_3.length : Int) (wrap64 (x39_1 + 1)) a0_0 a0_1 a0_2 l0_3 l0_4 l0_5 l0_6)) else (if y177.length + ((rd_T44 l0_3 x39_1).f1).length < 140737488355328 then (page_Encode.l0 k1 (y177 ++ ((rd_T44 l0_3 x39_1).f1)) l0_3 (l0_3.length : Int) (wrap64 (x39_1 + 1)) a0_0 a0_1 a0_2 l0_3 l0_4 l0_5 l0_6) else (none))) = some (r1, r2) := by first | (rw [hy177]; with_reducible exact H) | (have H2_ := (Option.bind_some _ _).symm.trans H; rw [hy177]; with_reducible exact H2_) | (have H2_ := (Option.bind_some _ _).symm.trans H; with_reducible exact H2_) | with_reducible exact H | (rw [hy177]; exact H) | exact H
        have Ny177 := Aside0.mk hy177; clear hy177
        by_cases c29 : ((rd_T44 l0_3 x39_1).f2) > 64
        ·
         rw [if_pos c29] at H; have c29b0 := decide_eq_true c29; clear c29; replace H := Option.bind_eq_some_iff.mp H; obtain ⟨t180, A300, H⟩ := H; (try dsimp only at H); have A30 := Aside0.mk A300; clear A300; have H' := Aside0.mk H; clear H; have p169 : 0 ≤ (x39_1 : Int) := of_decide_eq_true (by first | (with_reducible assumption) | assumption); have q169 : x39_1 < (l0_3.length : Int) := of_decide_eq_true (by first | (with_reducible assumption) | assumption); obtain ⟨ad169, A169_0, c169_0, A169_1, c169_1, e169, hx169_0, hx169_1, hx169_2, hx169_3, hl169_0, hi169_0, hl169_1, hi169_1⟩ := at_T44 HR0_3.out x39_1 p169 q169; cases e169; replace hx169_0 := (HB.out.cell (World.block_lt_of_cell? w _ hx169_0)).trans hx169_0; replace hx169_1 := (HB.out.cell (World.block_lt_of_cell? w _ hx169_1)).trans hx169_1; replace hx169_2 := (HB.out.cell (World.block_lt_of_cell? w _ hx169_2)).trans hx169_2; replace hx169_3 := (HB.out.cell (World.block_lt_of_cell? w _ hx169_3)).trans hx169_3; have HR169_0 := Aside0.mk hi169_0; have HC169_0 := Aside0.mk hl169_0; clear hi169_0 hl169_0; have HR169_1 := Aside0.mk hi169_1; have HC169_1 := Aside0.mk hl169_1; clear hi169_1 hl169_1; replace p169 := eq_true p169; replace q169 := eq_true q169
         try go_wp2_with (first | ((with_reducible refine gate_dst (N := 42) rfl ?_); refine Ext.struct_load (hgd := ?hg) (t := 44) (x := ?vx_42) (ho := ?ho) (cs := [.slice A169_0 ((rd_T44 l0_3 x39_1).f0).length c169_0, .slice A169_1 ((rd_T44 l0_3 x39_1).f1).length c169_1, .int .i64 ((rd_T44 l0_3 x39_1).f2), .int .i64 ((rd_T44 l0_3 x39_1).f3)]) (haddr := ?ha) Try.underlying44 rfl (by kernel_rfl) ⟨hx169_0, hx169_1, hx169_2, hx169_3, trivial⟩ ?_; (case ho => rfl); (case hg => rfl); (case ha => rfl)) | ((with_reducible refine gate_dst (N := 8) rfl ?_); refine Ext.alloc_event (hgd := ?hg) (N := 8) (_hd := ?hd) (t := 44) (ho := ?ho) info44 ?_; (case ho => rfl); (case hd => rfl); (case hg => rfl); intro gb170 hg w31 hbox hb; replace HO_6 := Ext.a (Kd.R_below (Ext.nR HO_6.out) hb); have BK170 := Ext.a (hbox); have GW170 := Ext.gw hg (below_size (Ext.s1 GE153.out HB.out)); have GE170 := Ext.gw hg (below_size (Ext.s1 GE153.out HB.out)); replace HB := Ext.a (below_step (Ext.s1 GE153.out HB.out) hb); have NB153_170 := Ext.nt hg (blk_lt BK153.out); have NB170_153 := Ext.ng hg (blk_lt BK153.out); replace BK153 := Ext.a (blk_below BK153.out hb); clear hb hbox hg; have hnb32 := NB170_153.out; have hnc32 := NB153_170.out; obtain ⟨hcz33_0, hcz33_1, hcz33_2, hcz33_3⟩ := Ext.cells4 BK170.out; obtain ⟨hfz33_0, hfz33_1, hfz33_2, hfz33_3⟩ := Ext.froz4 BK170.out) | ((with_reducible refine gate_store (t := 44) (p := 8) rfl ?_); refine Ext.struct_store (hgd := ?hg) (hN := ?hn) (t := 44) (p := .tmp 8) (x := ?vo_w34) (ho := ?ho) (cells := #[.slice A169_0 ((rd_T44 l0_3 x39_1).f0).length c169_0, .slice A169_1 ((rd_T44 l0_3 x39_1).f1).length c169_1, .int .i64 ((rd_T44 l0_3 x39_1).f2), .int .i64 ((rd_T44 l0_3 x39_1).f3)]) (haddr := ?ha) (hx := ?hx) BK170.out rfl (by kernel_rfl) rfl ?_; (case ho => rfl); (case hg => rfl); (case hn => rfl); (case ha => rfl); (case hx => first | rfl | (go_simp; done)); intro w34 hx_ hk_ hbl_; replace HO_6 := Ext.a (Kd.R_mono (Kd.R_keep (Kd.R_types HO_6.out BK170.out (by decide)) hk_ (fun _ h => h.2)) (fun _ h => h.1)); replace BK153 := Ext.a (KeepBut.blk hk_ BK153.out NB153_170.out (by simp)); replace BK170 := Ext.a (hx_); replace HB := Ext.a (hbl_ _ _ HB.out GE170.out); clear hx_ hk_ hbl_))
         replace HO_6 := Ext.a (Kd.R_drew HO_6.out); replace BK153 := Ext.a (blk_drew BK153.out); replace BK170 := Ext.a (blk_drew BK170.out); replace HB := Ext.a (below_drew1 HB.out); obtain ⟨Ao36, co36, eo36⟩ := Kd.R_slice HO_6.out
         (first | subst eo36 | (injection eo36 with f1_ f2_ f3_; have f4_ := f1_.symm; have f5_ := f3_.symm; clear f1_ f2_ f3_; subst f4_; subst f5_))
         refine start_ (n := 11) (S := fun w' => w'.cell? ⟨gb170, 0, none⟩ = some (.slice A169_0 ((rd_T44 l0_3 x39_1).f0).length c169_0) ∧ w'.cell? ⟨gb170, 1, none⟩ = some (.slice A169_1 ((rd_T44 l0_3 x39_1).f1).length c169_1) ∧ w'.cell? ⟨gb170, 2, none⟩ = some (.int .i64 ((rd_T44 l0_3 x39_1).f2)) ∧ w'.cell? ⟨gb170, 3, none⟩ = some (.int .i64 ((rd_T44 l0_3 x39_1).f3))) (ds := []) zb12_0 (by kernel_rfl) rfl rfl ⟨(blk_cell BK170.out 0).trans rfl, (blk_cell BK170.out 1).trans rfl, (blk_cell BK170.out 2).trans rfl, (blk_cell BK170.out 3).trans rfl⟩ (fun hHeld => ?_); refine with_tabW page_Encode.tab8 page_Encode.bits8 (fun HT_ HW_ => ?_); generalize w34.drew = w35 at HO_6 BK153 BK170 HB hHeld ⊢; refine pure_ (i := 0) (N := some 43) (v := ?_) (a' := ?_) zb12_1 rfl rfl (any_of HT_.out (by kernel_rfl)) (fun _ _ _ h => h) (Or.inl ⟨by rfl, ?_⟩) ?_ ?_; rotate_left
         · intro w'; go_simp; with_reducible rfl
         rotate_left
         · simp only [Act.put, Ext.sb, Ext.sz, Ext.ss, i64_w, i32_w]; rfl
         refine pure_ (i := 1) (N := some 44) (v := ?_) (a' := ?_) #[true, true, false, false, false, false, false, false, false, false, false] rfl rfl (any_of HT_.out (by kernel_rfl)) (fun _ _ _ h => h) (Or.inl ⟨by rfl, ?_⟩) ?_ ?_; rotate_left
         · intro w'; go_simp; with_reducible rfl
         rotate_left
         · simp only [Act.put, Ext.sb, Ext.sz, Ext.ss, i64_w, i32_w]; rfl
         refine pure_ (i := 6) (N := some 49) (v := ?_) (a' := ?_) #[true, true, false, false, false, false, true, false, false, false, false] rfl rfl (any_of HT_.out (by kernel_rfl)) (fun _ _ _ h => h) (Or.inl ⟨by rfl, ?_⟩) ?_ ?_; rotate_left
         · intro w'; go_simp; with_reducible rfl
         rotate_left
         · simp only [Act.put, Ext.sb, Ext.sz, Ext.ss, i64_w, i32_w]; rfl
         refine take_ (i := 2) (N := some 45) (v := ?_) (a' := ?_) #[true, true, true, false, false, false, true, false, false, false, false] rfl rfl (take_ofW HT_.out HW_.out (by kernel_rfl)) (fun _ _ _ h => h) (Or.inl ⟨by rfl, ?_⟩) hHeld ?_ ?_; rotate_left
         · rintro w' ⟨s0, s1, s2, s3⟩; go_simp; with_reducible rfl
         rotate_left
         · simp only [Act.put, Ext.sb, Ext.sz, Ext.ss, i64_w, i32_w]; rfl
         refine pure_ (i := 3) (N := some 46) (v := ?_) (a' := ?_) #[true, true, true, true, false, false, true, false, false, false, false] rfl rfl (any_of HT_.out (by kernel_rfl)) (fun _ _ _ h => h) (Or.inl ⟨by rfl, ?_⟩) ?_ ?_; rotate_left
         · intro w'; go_simp; with_reducible rfl
         rotate_left
         · simp only [Act.put, Ext.sb, Ext.sz, Ext.ss, i64_w, i32_w]; rfl
         refine pure_ (i := 4) (N := some 47) (v := ?_) (a' := ?_) #[true, true, true, true, true, false, true, false, false, false, false] rfl rfl (any_of HT_.out (by kernel_rfl)) (fun _ _ _ h => h) (Or.inl ⟨by rfl, ?_⟩) ?_ ?_; rotate_left
         · intro w'; go_simp; with_reducible rfl
         rotate_left
         · simp only [Act.put, Ext.sb, Ext.sz, Ext.ss, i64_w, i32_w]; rfl
         refine take_ (i := 7) (N := some 50) (v := ?_) (a' := ?_) #[true, true, true, true, true, false, true, true, false, false, false] rfl rfl (take_ofW HT_.out HW_.out (by kernel_rfl)) (fun _ _ _ h => h) (Or.inl ⟨by rfl, ?_⟩) hHeld ?_ ?_; rotate_left
         · rintro w' ⟨s0, s1, s2, s3⟩; go_simp; with_reducible rfl
         rotate_left
         · simp only [Act.put, Ext.sb, Ext.sz, Ext.ss, i64_w, i32_w]; rfl
         refine pure_ (i := 8) (N := some 51) (v := ?_) (a' := ?_) #[true, true, true, true, true, false, true, true, true, false, false] rfl rfl (any_of HT_.out (by kernel_rfl)) (fun _ _ _ h => h) (Or.inl ⟨by rfl, ?_⟩) ?_ ?_; rotate_left
         · intro w'; go_simp; with_reducible rfl
         rotate_left
         · simp only [Act.put, Ext.sb, Ext.sz, Ext.ss, i64_w, i32_w]; rfl
         refine one_ (i := 5) (N := some 48) #[true, true, true, true, true, true, true, true, true, false, false] rfl rfl (one_of HT_.out (by kernel_rfl)) (by decide) (fun K hK => ?_); refine goes_ Try.func25 (by kernel_rfl) rfl #[.slice Ao36 x6_1.length co36, .int .u64 (IntKind.u64.wrap ((((rd_T44 l0_3 x39_1).f0).length : Int))), .int .i64 1] (by rfl) rfl rfl (by (try simp only [List.map_toArray, List.map_cons, List.map_nil]); first | done | rfl | (simp only [List.length_drop, List.length_take]; rfl)) ?_
         with_reducible refine (page_put.calls k1 (fun k_ => some k_ = (.slice Ao36 x6_1.length co36 : Value).ownBlock) (.slice Ao36 x6_1.length co36) x6_1 (IntKind.u64.wrap ((((rd_T44 l0_3 x39_1).f0).length : Int))) 1 t171 w _ ?side1 ?side2 A26.out).mono ?_
         (case side1 => exact Ext.s2 GE153.out GE170.out HB.out)
         (case side2 => exact Kd.R_tight rfl HO_6.out)
         rintro e w37 ⟨v172, rfl, ho0, hb, hkp⟩; refine ⟨_, rfl, ?_⟩; replace BK153 := Ext.a (blk_kept (by exact BK153.out) hkp (fun hs_ => (fun e_ => (Kd.R_ne HO_6.out BK153.out (by decide)) e_) hs_)); replace BK170 := Ext.a (blk_kept (by exact BK170.out) hkp (fun hs_ => (fun e_ => (Kd.R_ne HO_6.out BK170.out (by decide)) e_) hs_)); have HO173 := Ext.a (Kd.R_mono (ok' := fun k_ => True) ho0 (fun k_ hk_ => trivial)); replace HB := Ext.a (hb); clear HO_6; (try clear hb hkp ho0); obtain ⟨Ao38, co38, eo38⟩ := Kd.R_slice HO173.out
         (first | subst eo38 | (injection eo38 with f1_ f2_ f3_; have f4_ := f1_.symm; have f5_ := f3_.symm; clear f1_ f2_ f3_; subst f4_; subst f5_))
         refine hK.out _ _ ⟨(blk_cell BK170.out 0).trans rfl, (blk_cell BK170.out 1).trans rfl, (blk_cell BK170.out 2).trans rfl, (blk_cell BK170.out 3).trans rfl⟩ (fun hHeld => ?_); clear hK K; refine norm_ (a' := ?_) ?_ ?_; rotate_left
         · show Act.put _ (some 48) _ = _; simp only [Act.put, Ext.sb, Ext.sz, Ext.ss, i64_w, i32_w]; rfl
         refine one_ (i := 9) (N := some 52) #[true, true, true, true, true, true, true, true, true, true, false] rfl rfl (one_of HT_.out (by kernel_rfl)) (by decide) (fun K hK => ?_); refine goes_ Try.func25 (by kernel_rfl) rfl #[.slice Ao38 t171.length co38, .int .u64 (IntKind.u64.wrap ((rd_T44 l0_3 x39_1).f2)), .int .i64 2] (by rfl) rfl rfl (by (try simp only [List.map_toArray, List.map_cons, List.map_nil]); first | done | rfl | (simp only [List.length_drop, List.length_take]; rfl)) ?_
         with_reducible refine (page_put.calls k1 (fun k_ => some k_ = (.slice Ao38 t171.length co38 : Value).ownBlock) (.slice Ao38 t171.length co38) t171 (IntKind.u64.wrap ((rd_T44 l0_3 x39_1).f2)) 2 t174 w _ ?side1 ?side2 A27.out).mono ?_
         (case side1 => exact Ext.s2 GE153.out GE170.out HB.out)
         (case side2 => exact Kd.R_tight rfl HO173.out)
         rintro e w39 ⟨v175, rfl, ho0, hb, hkp⟩; refine ⟨_, rfl, ?_⟩; replace BK153 := Ext.a (blk_kept (by exact BK153.out) hkp (fun hs_ => (fun e_ => (Kd.R_ne HO173.out BK153.out (by decide)) e_) hs_)); replace BK170 := Ext.a (blk_kept (by exact BK170.out) hkp (fun hs_ => (fun e_ => (Kd.R_ne HO173.out BK170.out (by decide)) e_) hs_)); have HO176 := Ext.a (Kd.R_mono (ok' := fun k_ => True) ho0 (fun k_ hk_ => trivial)); replace HB := Ext.a (hb); clear HO173; (try clear hb hkp ho0); refine hK.out _ _ ⟨(blk_cell BK170.out 0).trans rfl, (blk_cell BK170.out 1).trans rfl, (blk_cell BK170.out 2).trans rfl, (blk_cell BK170.out 3).trans rfl⟩ (fun hHeld => ?_); clear hK K; refine norm_ (a' := ?_) ?_ ?_; rotate_left
         · show Act.put _ (some 52) _ = _; simp only [Act.put, Ext.sb, Ext.sz, Ext.ss, i64_w, i32_w]; rfl
         refine pure_ (i := 10) (N := some 6) (v := ?_) (a' := ?_) #[true, true, true, true, true, true, true, true, true, true, true] rfl rfl (any_of HT_.out (by kernel_rfl)) (fun _ _ _ h => h) (Or.inl ⟨by rfl, ?_⟩) ?_ ?_; rotate_left
         · intro w'; go_simp; with_reducible rfl
         rotate_left
         · simp only [Act.put, Ext.sb, Ext.sz, Ext.ss, i64_w, i32_w]; rfl
         refine done_ (done_of HT_.out (by kernel_rfl)) ?_; obtain ⟨hcz40_0, hcz40_1, hcz40_2, hcz40_3⟩ := Ext.cells4 BK170.out; obtain ⟨hfz40_0, hfz40_1, hfz40_2, hfz40_3⟩ := Ext.froz4 BK170.out
         try go_wp2_with (first | ((with_reducible refine gate_builtin (b := .append) (xs := #[.tmp 53, .tmp 55]) rfl ?_); at_builtin; refine Kd.R_append_rows (Kd.int .u8) (w0 := w) w.heap.size rfl (.tmp 53) (.tmp 55) 25 5 (.int .u8 0) 1 rfl Try.underlying25 info5 rfl (by decide) (by omega) v175 t174 ((rd_T44 l0_3 x39_1).f0) _ _ _ (fun _ => True) (fun _ => False) rfl rfl ?aO ?aR (fun _ _ h => h) (fun _ h => h.elim) ?aF ?aB ?aS ?aL ?_; (case aR => first | exact Ext.kC HR169_0.out HB.out | exact Ext.nC HR169_0.out); (case aB => exact (Ext.s2 GE153.out GE170.out HB.out)); (case aF => exact (fun _ _ => trivial)); (case aO => exact (Ext.nR HO176.out)); (case aS => exact (below_size (Ext.s2 GE153.out GE170.out HB.out))); (case aL => have := LMc28.out; omega); intro v178 w41 ho hb hg hat; rw [← Ny177.out] at ho; replace BK153 := Ext.a (blk_grown BK153.out hg (Kd.R_ne HO176.out BK153.out (by decide))); replace BK170 := Ext.a (blk_grown BK170.out hg (Kd.R_ne HO176.out BK170.out (by decide))); replace HB := Ext.a (hb); have HO179 := Ext.a (ho); clear HO176; clear ho hb hg hat; obtain ⟨hcz42_0, hcz42_1, hcz42_2, hcz42_3⟩ := Ext.cells4 BK170.out; obtain ⟨hfz42_0, hfz42_1, hfz42_2, hfz42_3⟩ := Ext.froz4 BK170.out; obtain ⟨Ao43, co43, eo43⟩ := Kd.R_slice HO179.out; subst eo43) | ((with_reducible refine gate_callee (f := 25) rfl ?_); refine Ext.gs (some 64) rfl rfl Try.func25 #[.slice Ao43 y177.length co43, .int .u64 (IntKind.u64.wrap ((rd_T44 l0_3 x39_1).f3)), .int .i64 4] rfl ?_; (with_reducible refine (page_put.calls k1 (fun k_ => some k_ = (.slice Ao43 y177.length co43 : Value).ownBlock) (.slice Ao43 y177.length co43) y177 (IntKind.u64.wrap ((rd_T44 l0_3 x39_1).f3)) 4 t180 w _ ?side1 ?side2 A30.out).mono ?_); (case side1 => exact Ext.s2 GE153.out GE170.out HB.out); (case side2 => exact Kd.R_tight rfl HO179.out); rintro e w44 ⟨v181, rfl, ho0, hb, hkp⟩; refine ⟨_, rfl, ?_⟩; replace BK153 := Ext.a (blk_kept (by exact BK153.out) hkp (fun hs_ => (fun e_ => (Kd.R_ne HO179.out BK153.out (by decide)) e_) hs_)); replace BK170 := Ext.a (blk_kept (by exact BK170.out) hkp (fun hs_ => (fun e_ => (Kd.R_ne HO179.out BK170.out (by decide)) e_) hs_)); have HO182 := Ext.a (Kd.R_mono (ok' := fun k_ => True) ho0 (fun k_ hk_ => trivial)); replace HB := Ext.a (hb); clear HO179; (try clear hb hkp ho0)))
         go_roundg k1
         case measure => have := HK1.out; omega
         case rel => exact ⟨(t180), (wrap64 (x39_1 + 1)), (by first | rfl | (simp; done) | (simp [*]; done)), H', ⟨by have := HK1.out; omega⟩, ⟨by exact Ext.nR HO182.out⟩, ⟨by exact BK153.out⟩, ⟨by exact Ext.s2 GE153.out GE170.out HB.out⟩⟩
        ·
         rw [if_neg c29] at H; have c29b0 := decide_eq_false c29; clear c29
         by_cases c45 : y177.length + ((rd_T44 l0_3 x39_1).f1).length < 140737488355328
         ·
          rw [if_pos c45] at H; have LMc45 := Aside0.mk c45; clear c45; obtain ⟨y183, hy183⟩ : ∃ y_ : List Int, y_ = (y177 ++ ((rd_T44 l0_3 x39_1).f1)) := ⟨_, rfl⟩
          replace H : (page_Encode.l0 k1 y183 l0_3 (l0_3.length : Int) (wrap64 (x39_1 + 1)) a0_0 a0_1 a0_2 l0_3 l0_4 l0_5 l0_6) = some (r1, r2) := by first | (rw [hy183]; with_reducible exact H) | (have H2_ := (Option.bind_some _ _).symm.trans H; rw [hy183]; with_reducible exact H2_) | (have H2_ := (Option.bind_some _ _).symm.trans H; with_reducible exact H2_) | with_reducible exact H | (rw [hy183]; exact H) | exact H
          have Ny183 := Aside0.mk hy183; clear hy183; have H' := Aside0.mk H; clear H; have p169 : 0 ≤ (x39_1 : Int) := of_decide_eq_true (by first | (with_reducible assumption) | assumption); have q169 : x39_1 < (l0_3.length : Int) := of_decide_eq_true (by first | (with_reducible assumption) | assumption); obtain ⟨ad169, A169_0, c169_0, A169_1, c169_1, e169, hx169_0, hx169_1, hx169_2, hx169_3, hl169_0, hi169_0, hl169_1, hi169_1⟩ := at_T44 HR0_3.out x39_1 p169 q169; cases e169; replace hx169_0 := (HB.out.cell (World.block_lt_of_cell? w _ hx169_0)).trans hx169_0; replace hx169_1 := (HB.out.cell (World.block_lt_of_cell? w _ hx169_1)).trans hx169_1; replace hx169_2 := (HB.out.cell (World.block_lt_of_cell? w _ hx169_2)).trans hx169_2; replace hx169_3 := (HB.out.cell (World.block_lt_of_cell? w _ hx169_3)).trans hx169_3; have HR169_0 := Aside0.mk hi169_0; have HC169_0 := Aside0.mk hl169_0; clear hi169_0 hl169_0; have HR169_1 := Aside0.mk hi169_1; have HC169_1 := Aside0.mk hl169_1; clear hi169_1 hl169_1; replace p169 := eq_true p169; replace q169 := eq_true q169
          try go_wp2_with (first | ((with_reducible refine gate_dst (N := 42) rfl ?_); refine Ext.struct_load (hgd := ?hg) (t := 44) (x := ?vx_42) (ho := ?ho) (cs := [.slice A169_0 ((rd_T44 l0_3 x39_1).f0).length c169_0, .slice A169_1 ((rd_T44 l0_3 x39_1).f1).length c169_1, .int .i64 ((rd_T44 l0_3 x39_1).f2), .int .i64 ((rd_T44 l0_3 x39_1).f3)]) (haddr := ?ha) Try.underlying44 rfl (by kernel_rfl) ⟨hx169_0, hx169_1, hx169_2, hx169_3, trivial⟩ ?_; (case ho => rfl); (case hg => rfl); (case ha => rfl)) | ((with_reducible refine gate_dst (N := 8) rfl ?_); refine Ext.alloc_event (hgd := ?hg) (N := 8) (_hd := ?hd) (t := 44) (ho := ?ho) info44 ?_; (case ho => rfl); (case hd => rfl); (case hg => rfl); intro gb170 hg w46 hbox hb; replace HO_6 := Ext.a (Kd.R_below (Ext.nR HO_6.out) hb); have BK170 := Ext.a (hbox); have GW170 := Ext.gw hg (below_size (Ext.s1 GE153.out HB.out)); have GE170 := Ext.gw hg (below_size (Ext.s1 GE153.out HB.out)); replace HB := Ext.a (below_step (Ext.s1 GE153.out HB.out) hb); have NB153_170 := Ext.nt hg (blk_lt BK153.out); have NB170_153 := Ext.ng hg (blk_lt BK153.out); replace BK153 := Ext.a (blk_below BK153.out hb); clear hb hbox hg; have hnb47 := NB170_153.out; have hnc47 := NB153_170.out; obtain ⟨hcz48_0, hcz48_1, hcz48_2, hcz48_3⟩ := Ext.cells4 BK170.out; obtain ⟨hfz48_0, hfz48_1, hfz48_2, hfz48_3⟩ := Ext.froz4 BK170.out) | ((with_reducible refine gate_store (t := 44) (p := 8) rfl ?_); refine Ext.struct_store (hgd := ?hg) (hN := ?hn) (t := 44) (p := .tmp 8) (x := ?vo_w49) (ho := ?ho) (cells := #[.slice A169_0 ((rd_T44 l0_3 x39_1).f0).length c169_0, .slice A169_1 ((rd_T44 l0_3 x39_1).f1).length c169_1, .int .i64 ((rd_T44 l0_3 x39_1).f2), .int .i64 ((rd_T44 l0_3 x39_1).f3)]) (haddr := ?ha) (hx := ?hx) BK170.out rfl (by kernel_rfl) rfl ?_; (case ho => rfl); (case hg => rfl); (case hn => rfl); (case ha => rfl); (case hx => first | rfl | (go_simp; done)); intro w49 hx_ hk_ hbl_; replace HO_6 := Ext.a (Kd.R_mono (Kd.R_keep (Kd.R_types HO_6.out BK170.out (by decide)) hk_ (fun _ h => h.2)) (fun _ h => h.1)); replace BK153 := Ext.a (KeepBut.blk hk_ BK153.out NB153_170.out (by simp)); replace BK170 := Ext.a (hx_); replace HB := Ext.a (hbl_ _ _ HB.out GE170.out); clear hx_ hk_ hbl_))
          replace HO_6 := Ext.a (Kd.R_drew HO_6.out); replace BK153 := Ext.a (blk_drew BK153.out); replace BK170 := Ext.a (blk_drew BK170.out); replace HB := Ext.a (below_drew1 HB.out); obtain ⟨Ao51, co51, eo51⟩ := Kd.R_slice HO_6.out
          (first | subst eo51 | (injection eo51 with f1_ f2_ f3_; have f4_ := f1_.symm; have f5_ := f3_.symm; clear f1_ f2_ f3_; subst f4_; subst f5_))
          refine start_ (n := 11) (S := fun w' => w'.cell? ⟨gb170, 0, none⟩ = some (.slice A169_0 ((rd_T44 l0_3 x39_1).f0).length c169_0) ∧ w'.cell? ⟨gb170, 1, none⟩ = some (.slice A169_1 ((rd_T44 l0_3 x39_1).f1).length c169_1) ∧ w'.cell? ⟨gb170, 2, none⟩ = some (.int .i64 ((rd_T44 l0_3 x39_1).f2)) ∧ w'.cell? ⟨gb170, 3, none⟩ = some (.int .i64 ((rd_T44 l0_3 x39_1).f3))) (ds := []) zb12_0 (by kernel_rfl) rfl rfl ⟨(blk_cell BK170.out 0).trans rfl, (blk_cell BK170.out 1).trans rfl, (blk_cell BK170.out 2).trans rfl, (blk_cell BK170.out 3).trans rfl⟩ (fun hHeld => ?_); refine with_tabW page_Encode.tab8 page_Encode.bits8 (fun HT_ HW_ => ?_); generalize w49.drew = w50 at HO_6 BK153 BK170 HB hHeld ⊢; refine pure_ (i := 0) (N := some 43) (v := ?_) (a' := ?_) zb12_1 rfl rfl (any_of HT_.out (by kernel_rfl)) (fun _ _ _ h => h) (Or.inl ⟨by rfl, ?_⟩) ?_ ?_; rotate_left
          · intro w'; go_simp; with_reducible rfl
          rotate_left
          · simp only [Act.put, Ext.sb, Ext.sz, Ext.ss, i64_w, i32_w]; rfl
          refine pure_ (i := 1) (N := some 44) (v := ?_) (a' := ?_) #[true, true, false, false, false, false, false, false, false, false, false] rfl rfl (any_of HT_.out (by kernel_rfl)) (fun _ _ _ h => h) (Or.inl ⟨by rfl, ?_⟩) ?_ ?_; rotate_left
          · intro w'; go_simp; with_reducible rfl
          rotate_left
          · simp only [Act.put, Ext.sb, Ext.sz, Ext.ss, i64_w, i32_w]; rfl
          refine pure_ (i := 6) (N := some 49) (v := ?_) (a' := ?_) #[true, true, false, false, false, false, true, false, false, false, false] rfl rfl (any_of HT_.out (by kernel_rfl)) (fun _ _ _ h => h) (Or.inl ⟨by rfl, ?_⟩) ?_ ?_; rotate_left
          · intro w'; go_simp; with_reducible rfl
          rotate_left
          · simp only [Act.put, Ext.sb, Ext.sz, Ext.ss, i64_w, i32_w]; rfl
          refine take_ (i := 2) (N := some 45) (v := ?_) (a' := ?_) #[true, true, true, false, false, false, true, false, false, false, false] rfl rfl (take_ofW HT_.out HW_.out (by kernel_rfl)) (fun _ _ _ h => h) (Or.inl ⟨by rfl, ?_⟩) hHeld ?_ ?_; rotate_left
          · rintro w' ⟨s0, s1, s2, s3⟩; go_simp; with_reducible rfl
          rotate_left
          · simp only [Act.put, Ext.sb, Ext.sz, Ext.ss, i64_w, i32_w]; rfl
          refine pure_ (i := 3) (N := some 46) (v := ?_) (a' := ?_) #[true, true, true, true, false, false, true, false, false, false, false] rfl rfl (any_of HT_.out (by kernel_rfl)) (fun _ _ _ h => h) (Or.inl ⟨by rfl, ?_⟩) ?_ ?_; rotate_left
          · intro w'; go_simp; with_reducible rfl
          rotate_left
          · simp only [Act.put, Ext.sb, Ext.sz, Ext.ss, i64_w, i32_w]; rfl
          refine pure_ (i := 4) (N := some 47) (v := ?_) (a' := ?_) #[true, true, true, true, true, false, true, false, false, false, false] rfl rfl (any_of HT_.out (by kernel_rfl)) (fun _ _ _ h => h) (Or.inl ⟨by rfl, ?_⟩) ?_ ?_; rotate_left
          · intro w'; go_simp; with_reducible rfl
          rotate_left
          · simp only [Act.put, Ext.sb, Ext.sz, Ext.ss, i64_w, i32_w]; rfl
          refine take_ (i := 7) (N := some 50) (v := ?_) (a' := ?_) #[true, true, true, true, true, false, true, true, false, false, false] rfl rfl (take_ofW HT_.out HW_.out (by kernel_rfl)) (fun _ _ _ h => h) (Or.inl ⟨by rfl, ?_⟩) hHeld ?_ ?_; rotate_left
          · rintro w' ⟨s0, s1, s2, s3⟩; go_simp; with_reducible rfl
          rotate_left
          · simp only [Act.put, Ext.sb, Ext.sz, Ext.ss, i64_w, i32_w]; rfl
          refine pure_ (i := 8) (N := some 51) (v := ?_) (a' := ?_) #[true, true, true, true, true, false, true, true, true, false, false] rfl rfl (any_of HT_.out (by kernel_rfl)) (fun _ _ _ h => h) (Or.inl ⟨by rfl, ?_⟩) ?_ ?_; rotate_left
          · intro w'; go_simp; with_reducible rfl
          rotate_left
          · simp only [Act.put, Ext.sb, Ext.sz, Ext.ss, i64_w, i32_w]; rfl
          refine one_ (i := 5) (N := some 48) #[true, true, true, true, true, true, true, true, true, false, false] rfl rfl (one_of HT_.out (by kernel_rfl)) (by decide) (fun K hK => ?_); refine goes_ Try.func25 (by kernel_rfl) rfl #[.slice Ao51 x6_1.length co51, .int .u64 (IntKind.u64.wrap ((((rd_T44 l0_3 x39_1).f0).length : Int))), .int .i64 1] (by rfl) rfl rfl (by (try simp only [List.map_toArray, List.map_cons, List.map_nil]); first | done | rfl | (simp only [List.length_drop, List.length_take]; rfl)) ?_
          with_reducible refine (page_put.calls k1 (fun k_ => some k_ = (.slice Ao51 x6_1.length co51 : Value).ownBlock) (.slice Ao51 x6_1.length co51) x6_1 (IntKind.u64.wrap ((((rd_T44 l0_3 x39_1).f0).length : Int))) 1 t171 w _ ?side1 ?side2 A26.out).mono ?_
          (case side1 => exact Ext.s2 GE153.out GE170.out HB.out)
          (case side2 => exact Kd.R_tight rfl HO_6.out)
          rintro e w52 ⟨v172, rfl, ho0, hb, hkp⟩; refine ⟨_, rfl, ?_⟩; replace BK153 := Ext.a (blk_kept (by exact BK153.out) hkp (fun hs_ => (fun e_ => (Kd.R_ne HO_6.out BK153.out (by decide)) e_) hs_)); replace BK170 := Ext.a (blk_kept (by exact BK170.out) hkp (fun hs_ => (fun e_ => (Kd.R_ne HO_6.out BK170.out (by decide)) e_) hs_)); have HO173 := Ext.a (Kd.R_mono (ok' := fun k_ => True) ho0 (fun k_ hk_ => trivial)); replace HB := Ext.a (hb); clear HO_6; (try clear hb hkp ho0); obtain ⟨Ao53, co53, eo53⟩ := Kd.R_slice HO173.out
          (first | subst eo53 | (injection eo53 with f1_ f2_ f3_; have f4_ := f1_.symm; have f5_ := f3_.symm; clear f1_ f2_ f3_; subst f4_; subst f5_))
          refine hK.out _ _ ⟨(blk_cell BK170.out 0).trans rfl, (blk_cell BK170.out 1).trans rfl, (blk_cell BK170.out 2).trans rfl, (blk_cell BK170.out 3).trans rfl⟩ (fun hHeld => ?_); clear hK K; refine norm_ (a' := ?_) ?_ ?_; rotate_left
          · show Act.put _ (some 48) _ = _; simp only [Act.put, Ext.sb, Ext.sz, Ext.ss, i64_w, i32_w]; rfl
          refine one_ (i := 9) (N := some 52) #[true, true, true, true, true, true, true, true, true, true, false] rfl rfl (one_of HT_.out (by kernel_rfl)) (by decide) (fun K hK => ?_); refine goes_ Try.func25 (by kernel_rfl) rfl #[.slice Ao53 t171.length co53, .int .u64 (IntKind.u64.wrap ((rd_T44 l0_3 x39_1).f2)), .int .i64 2] (by rfl) rfl rfl (by (try simp only [List.map_toArray, List.map_cons, List.map_nil]); first | done | rfl | (simp only [List.length_drop, List.length_take]; rfl)) ?_
          with_reducible refine (page_put.calls k1 (fun k_ => some k_ = (.slice Ao53 t171.length co53 : Value).ownBlock) (.slice Ao53 t171.length co53) t171 (IntKind.u64.wrap ((rd_T44 l0_3 x39_1).f2)) 2 t174 w _ ?side1 ?side2 A27.out).mono ?_
          (case side1 => exact Ext.s2 GE153.out GE170.out HB.out)
          (case side2 => exact Kd.R_tight rfl HO173.out)
          rintro e w54 ⟨v175, rfl, ho0, hb, hkp⟩; refine ⟨_, rfl, ?_⟩; replace BK153 := Ext.a (blk_kept (by exact BK153.out) hkp (fun hs_ => (fun e_ => (Kd.R_ne HO173.out BK153.out (by decide)) e_) hs_)); replace BK170 := Ext.a (blk_kept (by exact BK170.out) hkp (fun hs_ => (fun e_ => (Kd.R_ne HO173.out BK170.out (by decide)) e_) hs_)); have HO176 := Ext.a (Kd.R_mono (ok' := fun k_ => True) ho0 (fun k_ hk_ => trivial)); replace HB := Ext.a (hb); clear HO173; (try clear hb hkp ho0); refine hK.out _ _ ⟨(blk_cell BK170.out 0).trans rfl, (blk_cell BK170.out 1).trans rfl, (blk_cell BK170.out 2).trans rfl, (blk_cell BK170.out 3).trans rfl⟩ (fun hHeld => ?_); clear hK K; refine norm_ (a' := ?_) ?_ ?_; rotate_left
          · show Act.put _ (some 52) _ = _; simp only [Act.put, Ext.sb, Ext.sz, Ext.ss, i64_w, i32_w]; rfl
          refine pure_ (i := 10) (N := some 6) (v := ?_) (a' := ?_) #[true, true, true, true, true, true, true, true, true, true, true] rfl rfl (any_of HT_.out (by kernel_rfl)) (fun _ _ _ h => h) (Or.inl ⟨by rfl, ?_⟩) ?_ ?_; rotate_left
          · intro w'; go_simp; with_reducible rfl
          rotate_left
          · simp only [Act.put, Ext.sb, Ext.sz, Ext.ss, i64_w, i32_w]; rfl
          refine done_ (done_of HT_.out (by kernel_rfl)) ?_; obtain ⟨hcz55_0, hcz55_1, hcz55_2, hcz55_3⟩ := Ext.cells4 BK170.out; obtain ⟨hfz55_0, hfz55_1, hfz55_2, hfz55_3⟩ := Ext.froz4 BK170.out
          try go_wp2_with (first | ((with_reducible refine gate_builtin (b := .append) (xs := #[.tmp 53, .tmp 55]) rfl ?_); at_builtin; refine Kd.R_append_rows (Kd.int .u8) (w0 := w) w.heap.size rfl (.tmp 53) (.tmp 55) 25 5 (.int .u8 0) 1 rfl Try.underlying25 info5 rfl (by decide) (by omega) v175 t174 ((rd_T44 l0_3 x39_1).f0) _ _ _ (fun _ => True) (fun _ => False) rfl rfl ?aO ?aR (fun _ _ h => h) (fun _ h => h.elim) ?aF ?aB ?aS ?aL ?_; (case aR => first | exact Ext.kC HR169_0.out HB.out | exact Ext.nC HR169_0.out); (case aB => exact (Ext.s2 GE153.out GE170.out HB.out)); (case aF => exact (fun _ _ => trivial)); (case aO => exact (Ext.nR HO176.out)); (case aS => exact (below_size (Ext.s2 GE153.out GE170.out HB.out))); (case aL => have := LMc28.out; omega); intro v178 w56 ho hb hg hat; rw [← Ny177.out] at ho; replace BK153 := Ext.a (blk_grown BK153.out hg (Kd.R_ne HO176.out BK153.out (by decide))); replace BK170 := Ext.a (blk_grown BK170.out hg (Kd.R_ne HO176.out BK170.out (by decide))); replace HB := Ext.a (hb); have HO179 := Ext.a (ho); clear HO176; clear ho hb hg hat; obtain ⟨hcz57_0, hcz57_1, hcz57_2, hcz57_3⟩ := Ext.cells4 BK170.out; obtain ⟨hfz57_0, hfz57_1, hfz57_2, hfz57_3⟩ := Ext.froz4 BK170.out) | ((with_reducible refine gate_builtin (b := .append) (xs := #[.tmp 65, .tmp 67]) rfl ?_); at_builtin; refine Kd.R_append_rows (Kd.int .u8) (w0 := w) w.heap.size rfl (.tmp 65) (.tmp 67) 25 5 (.int .u8 0) 1 rfl Try.underlying25 info5 rfl (by decide) (by omega) v178 y177 ((rd_T44 l0_3 x39_1).f1) _ _ _ (fun _ => True) (fun _ => False) rfl rfl ?aO ?aR (fun _ _ h => h) (fun _ h => h.elim) ?aF ?aB ?aS ?aL ?_; (case aR => first | exact Ext.kC HR169_1.out HB.out | exact Ext.nC HR169_1.out); (case aB => exact (Ext.s2 GE153.out GE170.out HB.out)); (case aF => exact (fun _ _ => trivial)); (case aO => exact (Ext.nR HO179.out)); (case aS => exact (below_size (Ext.s2 GE153.out GE170.out HB.out))); (case aL => have := LMc45.out; omega); intro v184 w58 ho hb hg hat; rw [← Ny183.out] at ho; replace BK153 := Ext.a (blk_grown BK153.out hg (Kd.R_ne HO179.out BK153.out (by decide))); replace BK170 := Ext.a (blk_grown BK170.out hg (Kd.R_ne HO179.out BK170.out (by decide))); replace HB := Ext.a (hb); have HO185 := Ext.a (ho); clear HO179; clear ho hb hg hat))
          go_roundg k1
          case measure => have := HK1.out; omega
          case rel => exact ⟨(y183), (wrap64 (x39_1 + 1)), (by first | rfl | (simp; done) | (simp [*]; done)), H', ⟨by have := HK1.out; omega⟩, ⟨by exact Ext.nR HO185.out⟩, ⟨by exact BK153.out⟩, ⟨by exact Ext.s2 GE153.out GE170.out HB.out⟩⟩
         · rw [if_neg c45] at H; exact absurd H (by simp)
       · rw [if_neg c28] at H; exact absurd H (by simp)
      · rw [if_neg c25] at H; exact absurd H (by simp)
     · rw [if_neg c24] at H; exact absurd H (by simp)
    ·
     rw [if_neg c23] at H; have c23b0 := decide_eq_false c23; clear c23; have H' := Aside0.mk H; clear H; have hcz59 := Ext.cells7 BK153.out; have hfz59 := Ext.froz7 BK153.out
     go_wp2
     go_loopg [6, 73] k1 (fun kq v6 v73 w' => ∃ (x6_2 : List Int) (x73_2 : Int), v73 = .int .i64 x73_2 ∧ Aside0 (page_Encode.l1 kq x6_2 l0_4 (l0_4.length : Int) x73_2 a0_0 a0_1 a0_2 l0_3 l0_4 l0_5 l0_6 = some (r1, r2)) ∧ Aside0 (kq ≤ k1) ∧ Aside0 (Kd.R (Kd.int .u8) 5 w' w.heap.size (fun _ => True) v6 x6_2) ∧ Aside0 (w'.heap[gb153]? = some (.cells #[.int .i64 a0_0, .int .u64 a0_1, .int .i64 a0_2, (.slice A0_3 l0_3.length c0_3), (.slice A0_4 l0_4.length c0_4), (.slice A0_5 l0_5.length c0_5), (.slice A0_6 l0_6.length c0_6)] 28 (0, 0))) ∧ Aside0 (Below w.heap.size w w'))
     case atStart => exact ⟨(x6_1), (0), (by first | rfl | (simp; done) | (simp [*]; done)), H', ⟨Nat.le_refl _⟩, ⟨by exact Ext.nR HO_6.out⟩, ⟨by exact BK153.out⟩, ⟨by exact Ext.s1 GE153.out HB.out⟩⟩
     case round =>
      clear H'; (try clear p1 q1 hx1 c4 p6 c16 p16 q16 hx16 c23b0 c24b0 c25b0 c29b0 c32 c47 hcz33_0 hcz33_1 hcz33_2 hcz33_3 hcz40_0 hcz40_1 hcz40_2 hcz40_3 hcz42_0 hcz42_1 hcz42_2 hcz42_3 hcz48_0 hcz48_1 hcz48_2 hcz48_3 hcz55_0 hcz55_1 hcz55_2 hcz55_3 hcz57_0 hcz57_1 hcz57_2 hcz57_3 hcz59 hfz33_0 hfz33_1 hfz33_2 hfz33_3 hfz40_0 hfz40_1 hfz40_2 hfz40_3 hfz42_0 hfz42_1 hfz42_2 hfz42_3 hfz48_0 hfz48_1 hfz48_2 hfz48_3 hfz55_0 hfz55_1 hfz55_2 hfz55_3 hfz57_0 hfz57_1 hfz57_2 hfz57_3 hfz59 hx169_0 hx169_1 hx169_2 hx169_3 p169 q169); obtain ⟨x6_2, x73_2, rfl, HA, HK2, HO_6, BK153, HB⟩ := hrel; cases gk with
      | zero => exact absurd HA.out (by simp [page_Encode.l1])
      | succ k2 =>
       have H := HA.out; clear HA; simp only [page_Encode.l1] at H
       by_cases c60 : x73_2 < (l0_4.length : Int)
       ·
        rw [if_pos c60] at H; have c60b0 := decide_eq_true c60; clear c60
        by_cases c61 : 0 ≤ x73_2
        ·
         rw [if_pos c61] at H; have c61b0 := decide_eq_true c61; clear c61
         by_cases c62 : x73_2 < (l0_4.length : Int)
         ·
          rw [if_pos c62] at H; have c62b0 := decide_eq_true c62; clear c62; replace H := Option.bind_eq_some_iff.mp H; obtain ⟨t188, A630, H⟩ := H; (try dsimp only at H); have A63 := Aside0.mk A630; clear A630
          by_cases c64 : t188.length + ((rd_T60 l0_4 x73_2).f0).length < 140737488355328
          ·
           rw [if_pos c64] at H; have LMc64 := Aside0.mk c64; clear c64; obtain ⟨y191, hy191⟩ : ∃ y_ : List Int, y_ = (t188 ++ ((rd_T60 l0_4 x73_2).f0)) := ⟨_, rfl⟩
           replace H : ((page_put.f k2 y191 (IntKind.u64.wrap ((rd_T60 l0_4 x73_2).f1)) 4).bind fun t194 => (page_Encode.l1 k2 t194 l0_4 (l0_4.length : Int) (wrap64 (x73_2 + 1)) a0_0 a0_1 a0_2 l0_3 l0_4 l0_5 l0_6)) = some (r1, r2) := by first | (rw [hy191]; with_reducible exact H) | (have H2_ := (Option.bind_some _ _).symm.trans H; rw [hy191]; with_reducible exact H2_) | (have H2_ := (Option.bind_some _ _).symm.trans H; with_reducible exact H2_) | with_reducible exact H | (rw [hy191]; exact H) | exact H
           have Ny191 := Aside0.mk hy191; clear hy191; replace H := Option.bind_eq_some_iff.mp H; obtain ⟨t194, A650, H⟩ := H; (try dsimp only at H); have A65 := Aside0.mk A650; clear A650; have H' := Aside0.mk H; clear H; have p186 : 0 ≤ (x73_2 : Int) := of_decide_eq_true (by first | (with_reducible assumption) | assumption); have q186 : x73_2 < (l0_4.length : Int) := of_decide_eq_true (by first | (with_reducible assumption) | assumption); obtain ⟨ad186, A186_0, c186_0, e186, hx186_0, hx186_1, hl186_0, hi186_0⟩ := at_T60 HR0_4.out x73_2 p186 q186; cases e186; replace hx186_0 := (HB.out.cell (World.block_lt_of_cell? w _ hx186_0)).trans hx186_0; replace hx186_1 := (HB.out.cell (World.block_lt_of_cell? w _ hx186_1)).trans hx186_1; have HR186_0 := Aside0.mk hi186_0; have HC186_0 := Aside0.mk hl186_0; clear hi186_0 hl186_0; replace p186 := eq_true p186; replace q186 := eq_true q186
           try go_wp2_with (first | ((with_reducible refine gate_dst (N := 76) rfl ?_); refine Ext.struct_load (hgd := ?hg) (t := 60) (x := ?vx_76) (ho := ?ho) (cs := [.slice A186_0 ((rd_T60 l0_4 x73_2).f0).length c186_0, .int .i64 ((rd_T60 l0_4 x73_2).f1)]) (haddr := ?ha) Try.underlying60 rfl (by kernel_rfl) ⟨hx186_0, hx186_1, trivial⟩ ?_; (case ho => rfl); (case hg => rfl); (case ha => rfl)) | ((with_reducible refine gate_dst (N := 10) rfl ?_); refine Ext.alloc_event (hgd := ?hg) (N := 10) (_hd := ?hd) (t := 60) (ho := ?ho) info60 ?_; (case ho => rfl); (case hd => rfl); (case hg => rfl); intro gb187 hg w66 hbox hb; replace HO_6 := Ext.a (Kd.R_below (Ext.nR HO_6.out) hb); have BK187 := Ext.a (hbox); have GW187 := Ext.gw hg (below_size (Ext.s1 GE153.out HB.out)); have GE187 := Ext.gw hg (below_size (Ext.s1 GE153.out HB.out)); replace HB := Ext.a (below_step (Ext.s1 GE153.out HB.out) hb); have NB153_187 := Ext.nt hg (blk_lt BK153.out); have NB187_153 := Ext.ng hg (blk_lt BK153.out); replace BK153 := Ext.a (blk_below BK153.out hb); clear hb hbox hg; have hnb67 := NB187_153.out; have hnc67 := NB153_187.out; have hcz68_0 : w66.cell? ⟨gb187, 0, none⟩ = some (.slice none 0 0) := (blk_cell BK187.out 0).trans rfl; have hcz68_1 : w66.cell? ⟨gb187, 1, none⟩ = some (.int .i64 0) := (blk_cell BK187.out 1).trans rfl; have hfz68_0 := blk_frozen BK187.out 0; have hfz68_1 := blk_frozen BK187.out 1) | ((with_reducible refine gate_store (t := 60) (p := 10) rfl ?_); refine Ext.struct_store (hgd := ?hg) (hN := ?hn) (t := 60) (p := .tmp 10) (x := ?vo_w69) (ho := ?ho) (cells := #[.slice A186_0 ((rd_T60 l0_4 x73_2).f0).length c186_0, .int .i64 ((rd_T60 l0_4 x73_2).f1)]) (haddr := ?ha) (hx := ?hx) BK187.out rfl (by kernel_rfl) rfl ?_; (case ho => rfl); (case hg => rfl); (case hn => rfl); (case ha => rfl); (case hx => first | rfl | (go_simp; done)); intro w69 hx_ hk_ hbl_; replace HO_6 := Ext.a (Kd.R_mono (Kd.R_keep (Kd.R_types HO_6.out BK187.out (by decide)) hk_ (fun _ h => h.2)) (fun _ h => h.1)); replace BK153 := Ext.a (KeepBut.blk hk_ BK153.out NB153_187.out (by simp)); replace BK187 := Ext.a (hx_); replace HB := Ext.a (hbl_ _ _ HB.out GE187.out); clear hx_ hk_ hbl_))
           replace HO_6 := Ext.a (Kd.R_drew HO_6.out); replace BK153 := Ext.a (blk_drew BK153.out); replace BK187 := Ext.a (blk_drew BK187.out); replace HB := Ext.a (below_drew1 HB.out); obtain ⟨Ao71, co71, eo71⟩ := Kd.R_slice HO_6.out
           (first | subst eo71 | (injection eo71 with f1_ f2_ f3_; have f4_ := f1_.symm; have f5_ := f3_.symm; clear f1_ f2_ f3_; subst f4_; subst f5_))
           refine start_ (n := 10) (S := fun w' => w'.cell? ⟨gb187, 0, none⟩ = some (.slice A186_0 ((rd_T60 l0_4 x73_2).f0).length c186_0) ∧ w'.cell? ⟨gb187, 1, none⟩ = some (.int .i64 ((rd_T60 l0_4 x73_2).f1))) (ds := []) #[false, false, false, false, false, false, false, false, false, false] (by kernel_rfl) rfl rfl ⟨(blk_cell BK187.out 0).trans rfl, (blk_cell BK187.out 1).trans rfl⟩ (fun hHeld => ?_); refine with_tabW page_Encode.tab17 page_Encode.bits17 (fun HT_ HW_ => ?_); generalize w69.drew = w70 at HO_6 BK153 BK187 HB hHeld ⊢; refine pure_ (i := 0) (N := some 77) (v := ?_) (a' := ?_) #[true, false, false, false, false, false, false, false, false, false] rfl rfl (any_of HT_.out (by kernel_rfl)) (fun _ _ _ h => h) (Or.inl ⟨by rfl, ?_⟩) ?_ ?_; rotate_left
           · intro w'; go_simp; with_reducible rfl
           rotate_left
           · simp only [Act.put, Ext.sb, Ext.sz, Ext.ss, i64_w, i32_w]; rfl
           refine pure_ (i := 1) (N := some 78) (v := ?_) (a' := ?_) #[true, true, false, false, false, false, false, false, false, false] rfl rfl (any_of HT_.out (by kernel_rfl)) (fun _ _ _ h => h) (Or.inl ⟨by rfl, ?_⟩) ?_ ?_; rotate_left
           · intro w'; go_simp; with_reducible rfl
           rotate_left
           · simp only [Act.put, Ext.sb, Ext.sz, Ext.ss, i64_w, i32_w]; rfl
           refine pure_ (i := 6) (N := some 83) (v := ?_) (a' := ?_) #[true, true, false, false, false, false, true, false, false, false] rfl rfl (any_of HT_.out (by kernel_rfl)) (fun _ _ _ h => h) (Or.inl ⟨by rfl, ?_⟩) ?_ ?_; rotate_left
           · intro w'; go_simp; with_reducible rfl
           rotate_left
           · simp only [Act.put, Ext.sb, Ext.sz, Ext.ss, i64_w, i32_w]; rfl
           refine take_ (i := 2) (N := some 79) (v := ?_) (a' := ?_) #[true, true, true, false, false, false, true, false, false, false] rfl rfl (take_ofW HT_.out HW_.out (by kernel_rfl)) (fun _ _ _ h => h) (Or.inl ⟨by rfl, ?_⟩) hHeld ?_ ?_; rotate_left
           · rintro w' ⟨s0, s1⟩; go_simp; with_reducible rfl
           rotate_left
           · simp only [Act.put, Ext.sb, Ext.sz, Ext.ss, i64_w, i32_w]; rfl
           refine pure_ (i := 3) (N := some 80) (v := ?_) (a' := ?_) #[true, true, true, true, false, false, true, false, false, false] rfl rfl (any_of HT_.out (by kernel_rfl)) (fun _ _ _ h => h) (Or.inl ⟨by rfl, ?_⟩) ?_ ?_; rotate_left
           · intro w'; go_simp; with_reducible rfl
           rotate_left
           · simp only [Act.put, Ext.sb, Ext.sz, Ext.ss, i64_w, i32_w]; rfl
           refine pure_ (i := 4) (N := some 81) (v := ?_) (a' := ?_) #[true, true, true, true, true, false, true, false, false, false] rfl rfl (any_of HT_.out (by kernel_rfl)) (fun _ _ _ h => h) (Or.inl ⟨by rfl, ?_⟩) ?_ ?_; rotate_left
           · intro w'; go_simp; with_reducible rfl
           rotate_left
           · simp only [Act.put, Ext.sb, Ext.sz, Ext.ss, i64_w, i32_w]; rfl
           refine take_ (i := 7) (N := some 84) (v := ?_) (a' := ?_) #[true, true, true, true, true, false, true, true, false, false] rfl rfl (take_ofW HT_.out HW_.out (by kernel_rfl)) (fun _ _ _ h => h) (Or.inl ⟨by rfl, ?_⟩) hHeld ?_ ?_; rotate_left
           · rintro w' ⟨s0, s1⟩; go_simp; with_reducible rfl
           rotate_left
           · simp only [Act.put, Ext.sb, Ext.sz, Ext.ss, i64_w, i32_w]; rfl
           refine one_ (i := 5) (N := some 82) #[true, true, true, true, true, true, true, true, false, false] rfl rfl (one_of HT_.out (by kernel_rfl)) (by decide) (fun K hK => ?_); refine goes_ Try.func25 (by kernel_rfl) rfl #[.slice Ao71 x6_2.length co71, .int .u64 (IntKind.u64.wrap ((((rd_T60 l0_4 x73_2).f0).length : Int))), .int .i64 1] (by rfl) rfl rfl (by (try simp only [List.map_toArray, List.map_cons, List.map_nil]); first | done | rfl | (simp only [List.length_drop, List.length_take]; rfl)) ?_
           with_reducible refine (page_put.calls k2 (fun k_ => some k_ = (.slice Ao71 x6_2.length co71 : Value).ownBlock) (.slice Ao71 x6_2.length co71) x6_2 (IntKind.u64.wrap ((((rd_T60 l0_4 x73_2).f0).length : Int))) 1 t188 w _ ?side1 ?side2 A63.out).mono ?_
           (case side1 => exact Ext.s2 GE153.out GE187.out HB.out)
           (case side2 => exact Kd.R_tight rfl HO_6.out)
           rintro e w72 ⟨v189, rfl, ho0, hb, hkp⟩; refine ⟨_, rfl, ?_⟩; replace BK153 := Ext.a (blk_kept (by exact BK153.out) hkp (fun hs_ => (fun e_ => (Kd.R_ne HO_6.out BK153.out (by decide)) e_) hs_)); replace BK187 := Ext.a (blk_kept (by exact BK187.out) hkp (fun hs_ => (fun e_ => (Kd.R_ne HO_6.out BK187.out (by decide)) e_) hs_)); have HO190 := Ext.a (Kd.R_mono (ok' := fun k_ => True) ho0 (fun k_ hk_ => trivial)); replace HB := Ext.a (hb); clear HO_6; (try clear hb hkp ho0); refine hK.out _ _ ⟨(blk_cell BK187.out 0).trans rfl, (blk_cell BK187.out 1).trans rfl⟩ (fun hHeld => ?_); clear hK K; refine norm_ (a' := ?_) ?_ ?_; rotate_left
           · show Act.put _ (some 82) _ = _; simp only [Act.put, Ext.sb, Ext.sz, Ext.ss, i64_w, i32_w]; rfl
           refine one_ (i := 8) (N := some 85) #[true, true, true, true, true, true, true, true, true, false] rfl rfl (one_of HT_.out (by kernel_rfl)) (by decide) (fun K hK => ?_); refine Kd.R_append_rows_step (Kd.int .u8) (w0 := w) w.heap.size (by rfl) (.tmp 82) (.tmp 84) 25 5 (.int .u8 0) 1 rfl Try.underlying25 info5 rfl (by decide) (by omega) v189 t188 ((rd_T60 l0_4 x73_2).f0) _ _ _ (fun _ => True) (fun _ => False) rfl rfl ?aO ?aR (fun _ _ h => h) (fun _ h => h.elim) ?aF ?aB ?aS ?aL ?_
           (case aR => first | exact Ext.kC HR186_0.out HB.out | exact Ext.nC HR186_0.out)
           (case aB => exact (Ext.s2 GE153.out GE187.out HB.out))
           (case aF => exact (fun _ _ => trivial))
           (case aO => exact (Ext.nR HO190.out))
           (case aS => exact (below_size (Ext.s2 GE153.out GE187.out HB.out)))
           (case aL => have := LMc64.out; omega)
           intro v192 w73 ho hb hg hat
           rw [← Ny191.out] at ho; replace BK153 := Ext.a (blk_grown BK153.out hg (Kd.R_ne HO190.out BK153.out (by decide))); replace BK187 := Ext.a (blk_grown BK187.out hg (Kd.R_ne HO190.out BK187.out (by decide))); replace HB := Ext.a (hb); have HO193 := Ext.a (ho); clear HO190; clear ho hb hg hat; refine hK.out _ _ ⟨(blk_cell BK187.out 0).trans rfl, (blk_cell BK187.out 1).trans rfl⟩ (fun hHeld => ?_); clear hK K; refine norm_ (a' := ?_) ?_ ?_; rotate_left
           · show Act.put _ (some 85) _ = _; simp only [Act.put, Ext.sb, Ext.sz, Ext.ss, i64_w, i32_w]; rfl
           refine pure_ (i := 9) (N := some 6) (v := ?_) (a' := ?_) #[true, true, true, true, true, true, true, true, true, true] rfl rfl (any_of HT_.out (by kernel_rfl)) (fun _ _ _ h => h) (Or.inl ⟨by rfl, ?_⟩) ?_ ?_; rotate_left
           · intro w'; go_simp; with_reducible rfl
           rotate_left
           · simp only [Act.put, Ext.sb, Ext.sz, Ext.ss, i64_w, i32_w]; rfl
           refine done_ (done_of HT_.out (by kernel_rfl)) ?_; have hcz74_0 : w73.cell? ⟨gb187, 0, none⟩ = some (.slice A186_0 ((rd_T60 l0_4 x73_2).f0).length c186_0) := (blk_cell BK187.out 0).trans rfl; have hcz74_1 : w73.cell? ⟨gb187, 1, none⟩ = some (.int .i64 ((rd_T60 l0_4 x73_2).f1)) := (blk_cell BK187.out 1).trans rfl; have hfz74_0 := blk_frozen BK187.out 0; have hfz74_1 := blk_frozen BK187.out 1; obtain ⟨Ao75, co75, eo75⟩ := Kd.R_slice HO193.out; subst eo75
           try go_wp2_with (first | ((with_reducible refine gate_callee (f := 25) rfl ?_); refine Ext.gs (some 90) rfl rfl Try.func25 #[.slice Ao75 y191.length co75, .int .u64 (IntKind.u64.wrap ((rd_T60 l0_4 x73_2).f1)), .int .i64 4] rfl ?_; (with_reducible refine (page_put.calls k2 (fun k_ => some k_ = (.slice Ao75 y191.length co75 : Value).ownBlock) (.slice Ao75 y191.length co75) y191 (IntKind.u64.wrap ((rd_T60 l0_4 x73_2).f1)) 4 t194 w _ ?side1 ?side2 A65.out).mono ?_); (case side1 => exact Ext.s2 GE153.out GE187.out HB.out); (case side2 => exact Kd.R_tight rfl HO193.out); rintro e w76 ⟨v195, rfl, ho0, hb, hkp⟩; refine ⟨_, rfl, ?_⟩; replace BK153 := Ext.a (blk_kept (by exact BK153.out) hkp (fun hs_ => (fun e_ => (Kd.R_ne HO193.out BK153.out (by decide)) e_) hs_)); replace BK187 := Ext.a (blk_kept (by exact BK187.out) hkp (fun hs_ => (fun e_ => (Kd.R_ne HO193.out BK187.out (by decide)) e_) hs_)); have HO196 := Ext.a (Kd.R_mono (ok' := fun k_ => True) ho0 (fun k_ hk_ => trivial)); replace HB := Ext.a (hb); clear HO193; (try clear hb hkp ho0)))
           go_roundg k2
           case measure => have := HK1.out; have := HK2.out; omega
           case rel => exact ⟨(t194), (wrap64 (x73_2 + 1)), (by first | rfl | (simp; done) | (simp [*]; done)), H', ⟨by have := HK1.out; have := HK2.out; omega⟩, ⟨by exact Ext.nR HO196.out⟩, ⟨by exact BK153.out⟩, ⟨by exact Ext.s2 GE153.out GE187.out HB.out⟩⟩
          · rw [if_neg c64] at H; exact absurd H (by simp)
         · rw [if_neg c62] at H; exact absurd H (by simp)
        · rw [if_neg c61] at H; exact absurd H (by simp)
       ·
        rw [if_neg c60] at H; have c60b0 := decide_eq_false c60; clear c60
        by_cases c77 : x6_2.length + l0_5.length < 140737488355328
        ·
         rw [if_pos c77] at H; have LMc77 := Aside0.mk c77; clear c77; obtain ⟨y197, hy197⟩ : ∃ y_ : List Int, y_ = (x6_2 ++ l0_5) := ⟨_, rfl⟩
         replace H : (page_Encode.l2 k2 y197 l0_6 (l0_6.length : Int) 0) = some (r1, r2) := by first | (rw [hy197]; with_reducible exact H) | (have H2_ := (Option.bind_some _ _).symm.trans H; rw [hy197]; with_reducible exact H2_) | (have H2_ := (Option.bind_some _ _).symm.trans H; with_reducible exact H2_) | with_reducible exact H | (rw [hy197]; exact H) | exact H
         have Ny197 := Aside0.mk hy197; clear hy197; have H' := Aside0.mk H; clear H; have hcz78 := Ext.cells7 BK153.out; have hfz78 := Ext.froz7 BK153.out
         go_wp2_with (first | ((with_reducible refine gate_builtin (b := .append) (xs := #[.tmp 92, .tmp 94]) rfl ?_); at_builtin; refine Kd.R_append_rows (Kd.int .u8) (w0 := w) w.heap.size rfl (.tmp 92) (.tmp 94) 25 5 (.int .u8 0) 1 rfl Try.underlying25 info5 rfl (by decide) (by omega) u6 x6_2 l0_5 _ _ _ (fun _ => True) (fun _ => False) rfl rfl ?aO ?aR (fun _ _ h => h) (fun _ h => h.elim) ?aF ?aB ?aS ?aL ?_; (case aR => first | exact Ext.kC HR0_5.out HB.out | exact Ext.nC HR0_5.out); (case aB => exact (Ext.s1 GE153.out HB.out)); (case aF => exact (fun _ _ => trivial)); (case aO => exact (Ext.nR HO_6.out)); (case aS => exact (below_size (Ext.s1 GE153.out HB.out))); (case aL => have := LMc77.out; omega); intro v198 w79 ho hb hg hat; rw [← Ny197.out] at ho; replace BK153 := Ext.a (blk_grown BK153.out hg (Kd.R_ne HO_6.out BK153.out (by decide))); replace HB := Ext.a (hb); have HO199 := Ext.a (ho); clear HO_6; clear ho hb hg hat; have hcz80 := Ext.cells7 BK153.out; have hfz80 := Ext.froz7 BK153.out))
         go_loopg [6, 99] k2 (fun kq v6 v99 w' => ∃ (x6_3 : List Int) (x99_3 : Int), v99 = .int .i64 x99_3 ∧ Aside0 (page_Encode.l2 kq x6_3 l0_6 (l0_6.length : Int) x99_3 = some (r1, r2)) ∧ Aside0 (kq ≤ k2) ∧ Aside0 (Kd.R (Kd.int .u8) 5 w' w.heap.size (fun _ => True) v6 x6_3) ∧ Aside0 (w'.heap[gb153]? = some (.cells #[.int .i64 a0_0, .int .u64 a0_1, .int .i64 a0_2, (.slice A0_3 l0_3.length c0_3), (.slice A0_4 l0_4.length c0_4), (.slice A0_5 l0_5.length c0_5), (.slice A0_6 l0_6.length c0_6)] 28 (0, 0))) ∧ Aside0 (Below w.heap.size w w'))
         case atStart => exact ⟨(y197), (0), (by first | rfl | (simp; done) | (simp [*]; done)), H', ⟨Nat.le_refl _⟩, ⟨by exact Ext.nR HO199.out⟩, ⟨by exact BK153.out⟩, ⟨by exact Ext.s1 GE153.out HB.out⟩⟩
         case round =>
          clear H'; (try clear c6 c7 c18 p18 q18 hx18 c60b0 c61b0 c62b0 p64 c67 hcz68_0 hcz68_1 hcz74_0 hcz74_1 hcz78 hcz80 hfz68_0 hfz68_1 hfz74_0 hfz74_1 hfz78 hfz80 hx186_0 hx186_1 p186 q186); obtain ⟨x6_3, x99_3, rfl, HA, HK3, HO_6, BK153, HB⟩ := hrel; cases gk with
          | zero => exact absurd HA.out (by simp [page_Encode.l2])
          | succ k3 =>
           have H := HA.out; clear HA; simp only [page_Encode.l2] at H
           by_cases c81 : x99_3 < (l0_6.length : Int)
           ·
            rw [if_pos c81] at H; have c81b0 := decide_eq_true c81; clear c81
            by_cases c82 : 0 ≤ x99_3
            ·
             rw [if_pos c82] at H; have c82b0 := decide_eq_true c82; clear c82
             by_cases c83 : x99_3 < (l0_6.length : Int)
             ·
              rw [if_pos c83] at H; have c83b0 := decide_eq_true c83; clear c83; replace H := Option.bind_eq_some_iff.mp H; obtain ⟨t201, A840, H⟩ := H; (try dsimp only at H); have A84 := Aside0.mk A840; clear A840; have H' := Aside0.mk H; clear H; have p200 : 0 ≤ (x99_3 : Int) := of_decide_eq_true (by first | (with_reducible assumption) | assumption); have q200 : x99_3 < (l0_6.length : Int) := of_decide_eq_true (by first | (with_reducible assumption) | assumption); obtain ⟨ad200, e200, hx200_0⟩ := Kd.at_int HR0_6.out x99_3 p200 q200; cases e200; replace hx200_0 := (HB.out.cell (World.block_lt_of_cell? w _ hx200_0)).trans hx200_0; replace p200 := eq_true p200; replace q200 := eq_true q200; obtain ⟨Ao85, co85, eo85⟩ := Kd.R_slice HO_6.out; subst eo85
              go_wp2_with (first | ((with_reducible refine gate_callee (f := 25) rfl ?_); refine Ext.gs (some 106) rfl rfl Try.func25 #[.slice Ao85 x6_3.length co85, .int .u64 (IntKind.u64.wrap (rd l0_6 x99_3)), .int .i64 4] rfl ?_; (with_reducible refine (page_put.calls k3 (fun k_ => some k_ = (.slice Ao85 x6_3.length co85 : Value).ownBlock) (.slice Ao85 x6_3.length co85) x6_3 (IntKind.u64.wrap (rd l0_6 x99_3)) 4 t201 w _ ?side1 ?side2 A84.out).mono ?_); (case side1 => exact Ext.s1 GE153.out HB.out); (case side2 => exact Kd.R_tight rfl HO_6.out); rintro e w86 ⟨v202, rfl, ho0, hb, hkp⟩; refine ⟨_, rfl, ?_⟩; replace BK153 := Ext.a (blk_kept (by exact BK153.out) hkp (fun hs_ => (fun e_ => (Kd.R_ne HO_6.out BK153.out (by decide)) e_) hs_)); have HO203 := Ext.a (Kd.R_mono (ok' := fun k_ => True) ho0 (fun k_ hk_ => trivial)); replace HB := Ext.a (hb); clear HO_6; (try clear hb hkp ho0)))
              go_roundg k3
              case measure => have := HK1.out; have := HK2.out; have := HK3.out; omega
              case rel => exact ⟨(t201), (wrap64 (x99_3 + 1)), (by first | rfl | (simp; done) | (simp [*]; done)), H', ⟨by have := HK1.out; have := HK2.out; have := HK3.out; omega⟩, ⟨by exact Ext.nR HO203.out⟩, ⟨by exact BK153.out⟩, ⟨by exact Ext.s1 GE153.out HB.out⟩⟩
             · rw [if_neg c83] at H; exact absurd H (by simp)
            · rw [if_neg c82] at H; exact absurd H (by simp)
           ·
            rw [if_neg c81] at H; have c81b0 := decide_eq_false c81; clear c81
            by_cases c87 : 252 ≤ 281474976710656
            ·
             rw [if_pos c87] at H; have c87b0 := eq_true c87; have c87b1 := decide_eq_true c87; clear c87; obtain ⟨y204, hy204⟩ : ∃ y_ : List Int, y_ = (List.replicate 252 0) := ⟨_, rfl⟩
             replace H : (if y204.length + x6_3.length < 140737488355328 then ((sum_Seal.f k3 (Ext.copyL y204 x6_3)).bind fun t210 => (some (t210, 0))) else (none)) = some (r1, r2) := by first | (rw [hy204]; with_reducible exact H) | (have H2_ := (Option.bind_some _ _).symm.trans H; rw [hy204]; with_reducible exact H2_) | (have H2_ := (Option.bind_some _ _).symm.trans H; with_reducible exact H2_) | with_reducible exact H | (rw [hy204]; exact H) | exact H
             have Ny204 := Aside0.mk hy204; clear hy204
             by_cases c88 : y204.length + x6_3.length < 140737488355328
             ·
              rw [if_pos c88] at H; have LMc88 := Aside0.mk c88; clear c88; obtain ⟨y207, hy207⟩ : ∃ y_ : List Int, y_ = (Ext.copyL y204 x6_3) := ⟨_, rfl⟩
              replace H : ((sum_Seal.f k3 y207).bind fun t210 => (some (t210, 0))) = some (r1, r2) := by first | (rw [hy207]; with_reducible exact H) | (have H2_ := (Option.bind_some _ _).symm.trans H; rw [hy207]; with_reducible exact H2_) | (have H2_ := (Option.bind_some _ _).symm.trans H; with_reducible exact H2_) | with_reducible exact H | (rw [hy207]; exact H) | exact H
              have Ny207 := Aside0.mk hy207; clear hy207; replace H := Option.bind_eq_some_iff.mp H; obtain ⟨t210, A890, H⟩ := H; (try dsimp only at H); have A89 := Aside0.mk A890; clear A890; simp only [Option.some.injEq, Prod.mk.injEq] at H; obtain ⟨rfl, rfl⟩ := H
              go_wp2_with (first | ((with_reducible refine gate_dst (N := 108) rfl ?_); refine Kd.R_make (Kd.int .u8) _ 5 rfl (N := 108) rfl 25 _ _ rfl 252 rfl rfl Try.underlying25 (.int .u8 0) 1 info5 rfl (by decide) (by omega) 0 (ok := fun _ => True) (okp := fun _ => True) rfl (fun _ hk => hk) trivial (by omega) (by omega) (Below.refl _ _) (Nat.le_refl _) ?_; intro v205 w90 ho91 hb hg_ hnew_; clear hg_ hnew_; (first | rw [← Ny204.out] at ho91 | (simp only [Int.reduceToNat] at ho91; rw [← Ny204.out] at ho91)); have HO206 := Ext.a (Kd.R_lower (Kd.R_new' ho91 (Kd.R_lt (Ext.nR HO_6.out))) (below_size (Ext.s1 GE153.out HB.out))); replace HO_6 := Ext.a (Kd.R_elder' (Ext.nR HO_6.out) (Kd.R_base ho91) hb); replace BK153 := Ext.a (blk_below BK153.out hb); replace HB := Ext.a (below_step (Ext.s1 GE153.out HB.out) hb); clear hb ho91; obtain ⟨Ao93, co93, eo93⟩ := Kd.R_slice HO_6.out; subst eo93) | ((with_reducible refine gate_builtin (b := .copy) (xs := #[.tmp 109, .tmp 110]) rfl ?_); skip; refine Ext.R_copy_rows (w0 := w) w.heap.size rfl (.tmp 109) (.tmp 110) 25 5 rfl Try.underlying25 (by rfl) v205 y204 x6_3 _ _ _ (fun k_ => some k_ ≠ (.slice Ao93 x6_3.length co93 : Value).ownBlock) rfl rfl ?aO ?aR ?aF ?aB ?aS ?aL ?_; (case aR => exact Ext.nC (Kd.R_reads' HO_6.out).2.2); (case aB => exact (Ext.s1 GE153.out HB.out)); (case aF => exact (fun k_ hk => Kd.fresh' (Kd.R_lt (Ext.nR HO_6.out)) k_ hk)); (case aO => exact (Ext.nR (Kd.R_mono HO206.out (fun _ hk => hk.2)))); (case aS => exact (below_size (Ext.s1 GE153.out HB.out))); (case aL => have := LMc88.out; omega); intro v208 w92 ho hb hg hat hcpy_; subst hcpy_; rw [← Ny207.out] at ho; replace HO_6 := Ext.a (Kd.R_after (ok := (fun _ => True)) (Ext.nR HO_6.out) hg hat); replace BK153 := Ext.a (blk_grown BK153.out hg (Kd.R_ne HO206.out BK153.out (by decide))); replace HB := Ext.a (hb); have HO209 := Ext.a (ho); clear HO206; clear ho hb hg hat; obtain ⟨Ao94, co94, eo94⟩ := Kd.R_slice HO209.out; subst eo94) | ((with_reducible refine gate_callee (f := 26) rfl ?_); refine Ext.gs (some 113) rfl rfl Try.func26 #[.slice Ao94 y207.length co94] rfl ?_; (with_reducible refine (sum_Seal.calls k3 (fun k_ => some k_ = (.slice Ao94 y207.length co94 : Value).ownBlock) _ _ y207 t210 _ ?side1 A89.out).mono ?_); (case side1 => exact Kd.R_V (Kd.R_tight rfl (Kd.R_types (HO209.out) BK153.out (by decide)))); rintro e w95 ⟨v211, rfl, ho0, hb⟩; refine ⟨_, rfl, ?_⟩; have HO212 := Ext.a (Kd.R_lower (Kd.R_new' (Kd.R_new' (Kd.R_mono (ok' := fun k_ => True) ho0 (fun _ hk_ => trivial)) (Kd.R_lt (Ext.nR HO_6.out))) (Kd.R_lt (Ext.nR HO209.out))) (below_size (Ext.s1 GE153.out HB.out))); replace HO_6 := Ext.a (Kd.R_elder' (Ext.nR HO_6.out) (Kd.R_base ho0) hb); replace HO209 := Ext.a (Kd.R_elder' (Ext.nR HO209.out) (Kd.R_base ho0) hb); replace BK153 := Ext.a (blk_below BK153.out hb); replace HB := Ext.a (below_step (Ext.s1 GE153.out HB.out) hb); (try clear hb ho0)))
              go_ret2
              exact ⟨_, by first | rfl | (simp [errW_none, errW_some] <;> rfl) | (simp [*, errW_none, errW_some] <;> rfl), by (with_reducible repeat (first | apply Kd.R_alloc | apply Kd.R_drewN | apply Kd.R_drew)); exact Kd.R_mono HO212.out (fun _ hk => trivial), by exact Ext.s1 GE153.out HB.out⟩
             · rw [if_neg c88] at H; exact absurd H (by simp)
            · rw [if_neg c87] at H; exact absurd H (by simp)
        · rw [if_neg c77] at H; exact absurd H (by simp)
 ·
  replace c3 := Bool.eq_false_iff.mpr c3; subst c3; rw [if_neg Bool.false_ne_true] at H; simp only [Option.some.injEq, Prod.mk.injEq] at H; obtain ⟨rfl, rfl⟩ := H
  go_enter Try.func12, Try.ntmps12
  go_wp2_with (first | ((with_reducible refine gate_dst (N := 1) rfl ?_); refine box_event ?hg (N := 1) ?hd (cs := #[.int .i64 a0_0, .int .u64 a0_1, .int .i64 a0_2, .slice A0_3 l0_3.length c0_3, .slice A0_4 l0_4.length c0_4, .slice A0_5 l0_5.length c0_5, .slice A0_6 l0_6.length c0_6]) (t := 28) ?hr ?_; (case hd => rfl); (case hg => rfl); (case hr => first | (go_simp; done) | (go_simp; rfl)); intro gb153 hg w96 hbox hb; have BK153 := Ext.a (hbox); have GW153 := Ext.gw hg (below_size (Ext.nB HB.out)); have GE153 := Ext.gw hg (below_size (Ext.nB HB.out)); replace HB := Ext.a (below_step (Ext.nB HB.out) hb); clear hb hbox hg; have hcz97 := Ext.cells7 BK153.out; have hfz97 := Ext.froz7 BK153.out) | ((with_reducible refine gate_dst (N := 14) rfl ?_); refine Ext.struct_load_blk (hgd := ?hg) (t := 28) (x := ?vx_14) (ho := ?ho) (haddr := ?ha) Try.underlying28 rfl (by kernel_rfl) BK153.out ?_; (case ho => rfl); (case hg => rfl); (case ha => rfl)) | ((with_reducible refine gate_callee (f := 14) rfl ?_); refine Ext.gs (some 15) rfl rfl Try.func14 #[.agg #[.int .i64 a0_0, .int .u64 a0_1, .int .i64 a0_2, .slice A0_3 l0_3.length c0_3, .slice A0_4 l0_4.length c0_4, .slice A0_5 l0_5.length c0_5, .slice A0_6 l0_6.length c0_6]] rfl ?_; (with_reducible refine (page_Right.calls k a0_0 a0_1 a0_2 _ _ l0_3 _ _ l0_4 _ _ l0_5 _ _ l0_6 false _ ?side1 ?side2 ?side3 ?side4 ?side5 ?side6 ?side7 ?side8 A2.out).mono ?_); (case side1 => first | exact Ext.kC HR0_3.out HB.out | exact Ext.nC HR0_3.out); (case side2 => exact HC0_3.out); (case side3 => first | exact Ext.kC HR0_4.out HB.out | exact Ext.nC HR0_4.out); (case side4 => exact HC0_4.out); (case side5 => first | exact Ext.kC HR0_5.out HB.out | exact Ext.nC HR0_5.out); (case side6 => exact HC0_5.out); (case side7 => first | exact Ext.kC HR0_6.out HB.out | exact Ext.nC HR0_6.out); (case side8 => exact HC0_6.out); rintro e w98 ⟨rfl, hb⟩; refine ⟨_, rfl, ?_⟩; replace BK153 := Ext.a (blk_below BK153.out hb); replace HB := Ext.a (below_step (Ext.s1 GE153.out HB.out) hb); (try clear hb)))
  go_ret2
  exact ⟨_, by first | rfl | (simp [errW_none, errW_some] <;> rfl) | (simp [*, errW_none, errW_some] <;> rfl), by first | exact Ext.nl | exact Kd.R_nil _ _ _ _ _, by exact Ext.s1 GE153.out HB.out⟩

end Go.Proofs.Ytandeendeoempaa.PC
