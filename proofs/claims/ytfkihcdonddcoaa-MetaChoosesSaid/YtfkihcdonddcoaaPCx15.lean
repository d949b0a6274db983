-- Written by wip/printx.py, a program of this work over the kit's print, for this claim.
import Derived.Test.YtfkihcdonddcoaaPCx0
import Derived.Test.YtfkihcdonddcoaaPCx14
namespace Go.Proofs.Ytfkihcdonddcoaa.PC
open Go.RowKit Go.Proofs.YtfkihcdonddcoaaW.PrintWords Go.Proofs.YtfkihcdonddcoaaW.PrintLast Go.Proofs.YtfkihcdonddcoaaW.PrintMore
attribute [local go_sem] max2_int min2_int max_two min_two max_three min_three max_four min_four   -- for this text's walks alone
attribute [local go_sem] Ext.pick_u8 Ext.pick_u32 Ext.pick_u64
set_option linter.unusedVariables false
set_option linter.unusedSimpArgs false



/-! ### terrierref05_Choose: function 21 -/
mutual
def terrierref05_Choose.j0 : Nat → Int → Bool → Int → Int → Int → Int → Int → Int → Int → Int → Option (Int × Int × Int × Int × Int)
 | 0, _, _, _, _, _, _, _, _, _, _ => none
 | k + 1, x9, x10, x308000, x308001, x308002, x308003, x314000, x314001, x314002, x314003 => if x9 = 0 then (terrierref05_Choose.j1 k x10 ((Int.tmod x314000 2) == 1) x308000 x308001 x308002 x308003 x314000 x314001 x314002 x314003) else (terrierref05_Choose.j1 k x10 false x308000 x308001 x308002 x308003 x314000 x314001 x314002 x314003)
def terrierref05_Choose.j1 : Nat → Bool → Bool → Int → Int → Int → Int → Int → Int → Int → Int → Option (Int × Int × Int × Int × Int)
 | 0, _, _, _, _, _, _, _, _, _, _ => none
 | k + 1, x10, x11, x308000, x308001, x308002, x308003, x314000, x314001, x314002, x314003 => if x10 = true then (if x11 = true then (terrierref05_Choose.j2 k x11 (decide (x308000 > x314000)) x308000 x308001 x308002 x308003 x314000 x314001 x314002 x314003) else (terrierref05_Choose.j2 k x11 true x308000 x308001 x308002 x308003 x314000 x314001 x314002 x314003)) else (terrierref05_Choose.j2 k x11 false x308000 x308001 x308002 x308003 x314000 x314001 x314002 x314003)
def terrierref05_Choose.j2 : Nat → Bool → Bool → Int → Int → Int → Int → Int → Int → Int → Int → Option (Int × Int × Int × Int × Int)
 | 0, _, _, _, _, _, _, _, _, _, _ => none
 | k + 1, x11, x49, x308000, x308001, x308002, x308003, x314000, x314001, x314002, x314003 => if x49 = true then (some (x308000, x308001, x308002, x308003, 0)) else (if x11 = true then (some (x314000, x314001, x314002, x314003, 0)) else (some (0, 0, 0, 0, 7)))
end
def terrierref05_Choose.f (k : Nat) (l0 : List Int) (l1 : List Int) : Option (Int × Int × Int × Int × Int) := (terrierref05_Decode.f k l0).bind fun bt302 => ((terrierref05_Decode.f k l1).bind fun bt308 => (if bt302.2.2.2.2 = 0 then (terrierref05_Choose.j0 k bt308.2.2.2.2 ((Int.tmod bt302.1 2) == 0) bt302.1 bt302.2.1 bt302.2.2.1 bt302.2.2.2.1 bt308.1 bt308.2.1 bt308.2.2.1 bt308.2.2.2.1) else (terrierref05_Choose.j0 k bt308.2.2.2.2 false bt302.1 bt302.2.1 bt302.2.2.1 bt302.2.2.2.1 bt308.1 bt308.2.1 bt308.2.2.1 bt308.2.2.2.1)))
theorem terrierref05_Choose.mono_l : ∀ k, (∀ y0 y1 y2 y3 y4 y5 y6 y7 y8 y9, LeO (terrierref05_Choose.j0 k y0 y1 y2 y3 y4 y5 y6 y7 y8 y9) (terrierref05_Choose.j0 (k + 1) y0 y1 y2 y3 y4 y5 y6 y7 y8 y9)) ∧ (∀ y0 y1 y2 y3 y4 y5 y6 y7 y8 y9, LeO (terrierref05_Choose.j1 k y0 y1 y2 y3 y4 y5 y6 y7 y8 y9) (terrierref05_Choose.j1 (k + 1) y0 y1 y2 y3 y4 y5 y6 y7 y8 y9)) ∧ (∀ y0 y1 y2 y3 y4 y5 y6 y7 y8 y9, LeO (terrierref05_Choose.j2 k y0 y1 y2 y3 y4 y5 y6 y7 y8 y9) (terrierref05_Choose.j2 (k + 1) y0 y1 y2 y3 y4 y5 y6 y7 y8 y9))
 | 0 => ⟨fun _ _ _ _ _ _ _ _ _ _ r h => by simp [terrierref05_Choose.j0] at h, fun _ _ _ _ _ _ _ _ _ _ r h => by simp [terrierref05_Choose.j1] at h, fun _ _ _ _ _ _ _ _ _ _ r h => by simp [terrierref05_Choose.j2] at h⟩
 | k + 1 => by
  obtain ⟨ih0, ih1, ih2⟩ := terrierref05_Choose.mono_l k
  refine ⟨?_, ?_, ?_⟩
  ·
   intro y0 y1 y2 y3 y4 y5 y6 y7 y8 y9
   unfold terrierref05_Choose.j0
   repeat' first
   | (with_reducible exact ih0 _ _ _ _ _ _ _ _ _ _)
   | (with_reducible exact ih1 _ _ _ _ _ _ _ _ _ _)
   | (with_reducible exact ih2 _ _ _ _ _ _ _ _ _ _)
   | (with_reducible exact terrierref05_Decode.mono _ _)
   | (with_reducible exact LeO.refl _)
   | (with_reducible exact LeO.none _)
   | (with_reducible refine LeO.ite ?_ ?_)
   | (with_reducible refine LeO.bind ?_ (fun _ => ?_))
   | exact ih0 _ _ _ _ _ _ _ _ _ _
   | exact ih1 _ _ _ _ _ _ _ _ _ _
   | exact ih2 _ _ _ _ _ _ _ _ _ _
   | exact terrierref05_Decode.mono _ _
   | exact LeO.none _
   | refine LeO.ite ?_ ?_
   | refine LeO.bind ?_ (fun _ => ?_)
  ·
   intro y0 y1 y2 y3 y4 y5 y6 y7 y8 y9
   unfold terrierref05_Choose.j1
   repeat' first
   | (with_reducible exact ih0 _ _ _ _ _ _ _ _ _ _)
   | (with_reducible exact ih1 _ _ _ _ _ _ _ _ _ _)
   | (with_reducible exact ih2 _ _ _ _ _ _ _ _ _ _)
   | (with_reducible exact terrierref05_Decode.mono _ _)
   | (with_reducible exact LeO.refl _)
   | (with_reducible exact LeO.none _)
   | (with_reducible refine LeO.ite ?_ ?_)
   | (with_reducible refine LeO.bind ?_ (fun _ => ?_))
   | exact ih0 _ _ _ _ _ _ _ _ _ _
   | exact ih1 _ _ _ _ _ _ _ _ _ _
   | exact ih2 _ _ _ _ _ _ _ _ _ _
   | exact terrierref05_Decode.mono _ _
   | exact LeO.none _
   | refine LeO.ite ?_ ?_
   | refine LeO.bind ?_ (fun _ => ?_)
  ·
   intro y0 y1 y2 y3 y4 y5 y6 y7 y8 y9
   unfold terrierref05_Choose.j2
   repeat' first
   | (with_reducible exact ih0 _ _ _ _ _ _ _ _ _ _)
   | (with_reducible exact ih1 _ _ _ _ _ _ _ _ _ _)
   | (with_reducible exact ih2 _ _ _ _ _ _ _ _ _ _)
   | (with_reducible exact terrierref05_Decode.mono _ _)
   | (with_reducible exact LeO.refl _)
   | (with_reducible exact LeO.none _)
   | (with_reducible refine LeO.ite ?_ ?_)
   | (with_reducible refine LeO.bind ?_ (fun _ => ?_))
   | exact ih0 _ _ _ _ _ _ _ _ _ _
   | exact ih1 _ _ _ _ _ _ _ _ _ _
   | exact ih2 _ _ _ _ _ _ _ _ _ _
   | exact terrierref05_Decode.mono _ _
   | exact LeO.none _
   | refine LeO.ite ?_ ?_
   | refine LeO.bind ?_ (fun _ => ?_)
theorem terrierref05_Choose.mono : ∀ a0 a1 k, LeO (terrierref05_Choose.f k a0 a1) (terrierref05_Choose.f (k + 1) a0 a1) := by
 intro a0 a1 k
 obtain ⟨ih0, ih1, ih2⟩ := terrierref05_Choose.mono_l k
 unfold terrierref05_Choose.f
 repeat' first
   | (with_reducible exact ih0 _ _ _ _ _ _ _ _ _ _)
   | (with_reducible exact ih1 _ _ _ _ _ _ _ _ _ _)
   | (with_reducible exact ih2 _ _ _ _ _ _ _ _ _ _)
   | (with_reducible exact terrierref05_Decode.mono _ _)
   | (with_reducible exact LeO.refl _)
   | (with_reducible exact LeO.none _)
   | (with_reducible refine LeO.ite ?_ ?_)
   | (with_reducible refine LeO.bind ?_ (fun _ => ?_))
   | exact ih0 _ _ _ _ _ _ _ _ _ _
   | exact ih1 _ _ _ _ _ _ _ _ _ _
   | exact ih2 _ _ _ _ _ _ _ _ _ _
   | exact terrierref05_Decode.mono _ _
   | exact LeO.none _
   | refine LeO.ite ?_ ?_
   | refine LeO.bind ?_ (fun _ => ?_)
set_option maxHeartbeats 8000000 in
set_option maxRecDepth 100000 in
theorem terrierref05_Choose.calls (k : Nat) (A0 : Option Addr) (c0 : Nat) (l0 : List Int) (A1 : Option Addr) (c1 : Nat) (l1 : List Int) (r1 : Int) (r2 : Int) (r3 : Int) (r4 : Int) (r5 : Int) (w : World) (hr0 : Kd.C (Kd.int .u8) w A0 l0.length l0) (hc0 : l0.length ≤ c0) (hr1 : Kd.C (Kd.int .u8) w A1 l1.length l1) (hc1 : l1.length ≤ c1) (h : terrierref05_Choose.f k l0 l1 = some (r1, r2, r3, r4, r5)) :
  Calls Try.prog 21 #[.slice A0 l0.length c0, .slice A1 l1.length c1] w fun e w' => e = .returned (.tuple #[.agg #[.int .u64 r1, .int .i64 r2, .int .i64 r3, .int .i64 r4], .int .i64 r5]) ∧ Below w.heap.size w w' := by
 have hu31 := Try.underlying31
 have HR0 := Aside0.mk hr0
 have HC0 := Aside0.mk hc0
 clear hr0 hc0
 have HR1 := Aside0.mk hr1
 have HC1 := Aside0.mk hc1
 clear hr1 hc1
 have HB := Ext.a (Below.refl w.heap.size w)
 have H : ((terrierref05_Decode.f k l0).bind fun bt302 => ((terrierref05_Decode.f k l1).bind fun bt308 => (if bt302.2.2.2.2 = 0 then (terrierref05_Choose.j0 k bt308.2.2.2.2 ((Int.tmod bt302.1 2) == 0) bt302.1 bt302.2.1 bt302.2.2.1 bt302.2.2.2.1 bt308.1 bt308.2.1 bt308.2.2.1 bt308.2.2.2.1) else (terrierref05_Choose.j0 k bt308.2.2.2.2 false bt302.1 bt302.2.1 bt302.2.2.1 bt302.2.2.2.1 bt308.1 bt308.2.1 bt308.2.2.1 bt308.2.2.2.1)))) = some (r1, r2, r3, r4, r5) := h
 clear h
 replace H := Option.bind_eq_some_iff.mp H
 obtain ⟨⟨t302, t303, t304, t305, t306⟩, A30, H⟩ := H
 replace H : ((terrierref05_Decode.f k l1).bind fun bt308 => (if t306 = 0 then (terrierref05_Choose.j0 k bt308.2.2.2.2 ((Int.tmod t302 2) == 0) t302 t303 t304 t305 bt308.1 bt308.2.1 bt308.2.2.1 bt308.2.2.2.1) else (terrierref05_Choose.j0 k bt308.2.2.2.2 false t302 t303 t304 t305 bt308.1 bt308.2.1 bt308.2.2.1 bt308.2.2.2.1))) = some (r1, r2, r3, r4, r5) := H
 have A3 := Aside0.mk A30
 clear A30
 replace H := Option.bind_eq_some_iff.mp H
 obtain ⟨⟨t308, t309, t310, t311, t312⟩, A40, H⟩ := H
 replace H : (if t306 = 0 then (terrierref05_Choose.j0 k t312 ((Int.tmod t302 2) == 0) t302 t303 t304 t305 t308 t309 t310 t311) else (terrierref05_Choose.j0 k t312 false t302 t303 t304 t305 t308 t309 t310 t311)) = some (r1, r2, r3, r4, r5) := H
 have A4 := Aside0.mk A40
 clear A40
 have HC5 := Aside0.mk H
 clear H
 go_enter Try.func21, Try.ntmps21
 go_upto_region 3 with (first | ((with_reducible refine gate_dst (N := 4) rfl ?_); refine box_event ?hg (N := 4) ?hd (cs := #[.int .u64 0, .int .i64 0, .int .i64 0, .int .i64 0]) (t := 31) ?hr ?_; (case hd => rfl); (case hg => rfl); (case hr => first | (go_simp; done) | (go_simp; rfl)); intro gb301 hg w6 hbox hb; have n0_ := Ext.a (below_step (Ext.nB HB.out) hb); have n1_ := Ext.a (hbox); have n2_ := Ext.a ((by rw [hg]; exact (below_size (Ext.nB HB.out)) : w.heap.size ≤ gb301)); have n3_ := Ext.a ((by rw [hg]; exact (below_size (Ext.nB HB.out)) : w.heap.size ≤ gb301)); clear HB; have HB := n0_; have BK301 := n1_; have GW301 := n2_; have GE301 := n3_; clear n0_ n1_ n2_ n3_; clear hb hbox hg) | ((with_reducible refine gate_callee (f := 19) rfl ?_); refine goesL_ (some 14) rfl rfl Try.func19 (by kernel_rfl) rfl #[.slice A0 l0.length c0] rfl (by (try simp only [List.map_toArray, List.map_cons, List.map_nil]); first | done | rfl | (simp only [List.length_drop, List.length_take]; rfl)) ?_; (with_reducible refine (terrierref05_Decode.calls k _ _ l0 t302 t303 t304 t305 t306 _ ?side1 ?side2 A3.out).mono ?_); (case side1 => repeat (first | exact (Kd.C_below HR0.out HB.out) | exact HR0.out | (with_reducible refine Kd.C_alloc ?_ _) | (with_reducible refine Kd.C_drewN ?_ _) | (with_reducible refine Kd.C_drew ?_))); (case side2 => exact HC0.out); rintro e w7 ⟨rfl, hb⟩; refine ⟨_, rfl, ?_⟩; have n0_ := Ext.a (blk_below BK301.out hb); have n1_ := Ext.a (below_step (by repeat (first | (with_reducible first | exact HB.out | apply Ext.ba | apply Ext.bn | apply Ext.bd | refine Ext.bs ?_ GE301.out) | exact HB.out | exact .refl _ _)) hb); clear BK301 HB; have BK301 := n0_; have HB := n1_; clear n0_ n1_; (try clear hb); (try clear hb2); (try clear hk); (try clear hi)) | ((with_reducible refine gate_dst (N := 6) rfl ?_); refine box_event ?hg (N := 6) ?hd (cs := #[.int .u64 0, .int .i64 0, .int .i64 0, .int .i64 0]) (t := 31) ?hr ?_; (case hd => rfl); (case hg => rfl); (case hr => first | (go_simp; done) | (go_simp; rfl)); intro gb307 hg w8 hbox hb; have n0_ := Ext.a (blk_below BK301.out hb); have n1_ := Ext.a (below_step (by repeat (first | (with_reducible first | exact HB.out | apply Ext.ba | apply Ext.bn | apply Ext.bd | refine Ext.bs ?_ GE301.out) | exact HB.out | exact .refl _ _)) hb); have n2_ := Ext.a (hbox); have n3_ := Ext.a ((by rw [hg]; exact (below_size (by repeat (first | (with_reducible first | exact HB.out | apply Ext.ba | apply Ext.bn | apply Ext.bd | refine Ext.bs ?_ GE301.out) | exact HB.out | exact .refl _ _))) : w.heap.size ≤ gb307)); have n4_ := Ext.a ((by rw [hg]; exact (below_size (by repeat (first | (with_reducible first | exact HB.out | apply Ext.ba | apply Ext.bn | apply Ext.bd | refine Ext.bs ?_ GE301.out) | exact HB.out | exact .refl _ _))) : w.heap.size ≤ gb307)); have n5_ := Ext.a ((by rw [hg]; exact Nat.ne_of_lt (blk_lt BK301.out) : gb301 ≠ gb307)); have n6_ := Ext.a ((by rw [hg]; exact Nat.ne_of_gt (blk_lt BK301.out) : gb307 ≠ gb301)); clear BK301 HB; have BK301 := n0_; have HB := n1_; have BK307 := n2_; have GW307 := n3_; have GE307 := n4_; have NB301_307 := n5_; have NB307_301 := n6_; clear n0_ n1_ n2_ n3_ n4_ n5_ n6_; clear hb hbox hg; have hnb9 := NB307_301.out; have hnc9 := NB301_307.out; obtain ⟨hcz10_0, hcz10_1, hcz10_2, hcz10_3⟩ := Ext.cells4 BK307.out; obtain ⟨hfz10_0, hfz10_1, hfz10_2, hfz10_3⟩ := Ext.froz4 BK307.out) | ((with_reducible refine gate_callee (f := 19) rfl ?_); refine goesL_ (some 19) rfl rfl Try.func19 (by kernel_rfl) rfl #[.slice A1 l1.length c1] rfl (by (try simp only [List.map_toArray, List.map_cons, List.map_nil]); first | done | rfl | (simp only [List.length_drop, List.length_take]; rfl)) ?_; (with_reducible refine (terrierref05_Decode.calls k _ _ l1 t308 t309 t310 t311 t312 _ ?side1 ?side2 A4.out).mono ?_); (case side1 => exact Kd.C_below HR1.out (by repeat (first | (with_reducible first | exact HB.out | apply Ext.ba | apply Ext.bn | apply Ext.bd | refine Ext.bs ?_ GE301.out | refine Ext.bs ?_ GE307.out) | exact HB.out | exact .refl _ _))); (case side2 => exact HC1.out); rintro e w11 ⟨rfl, hb⟩; refine ⟨_, rfl, ?_⟩; have n0_ := Ext.a (blk_below (g := gb301) (o := .cells #[.int .u64 0, .int .i64 0, .int .i64 0, .int .i64 0] 31 (0, 0)) (by refine blk_far ?_ NB301_307.out _; refine blk_far ?_ NB301_307.out _; refine blk_far ?_ NB301_307.out _; refine blk_far ?_ NB301_307.out _; exact BK301.out) hb); have n1_ := Ext.a (blk_below (g := gb307) (o := .cells #[.int .u64 t302, .int .i64 t303, .int .i64 t304, .int .i64 t305] 31 (0, 0)) (by exact Ext.puts4 BK307.out) hb); have n2_ := Ext.a (below_step (by repeat (first | (with_reducible first | exact HB.out | apply Ext.ba | apply Ext.bn | apply Ext.bd | refine Ext.bs ?_ GE301.out | refine Ext.bs ?_ GE307.out) | exact HB.out | exact .refl _ _)) hb); clear BK301 BK307 HB; have BK301 := n0_; have BK307 := n1_; have HB := n2_; clear n0_ n1_ n2_; (try clear hb); (try clear hb2); (try clear hk); (try clear hi)) | ((with_reducible refine gate_dst (N := 8) rfl ?_); refine box_event ?hg (N := 8) ?hd (cs := #[.int .u64 0, .int .i64 0, .int .i64 0, .int .i64 0]) (t := 31) ?hr ?_; (case hd => rfl); (case hg => rfl); (case hr => first | (go_simp; done) | (go_simp; rfl)); intro gb313 hg w12 hbox hb; have n0_ := Ext.a (blk_below BK301.out hb); have n1_ := Ext.a (blk_below BK307.out hb); have n2_ := Ext.a (below_step (by repeat (first | (with_reducible first | exact HB.out | apply Ext.ba | apply Ext.bn | apply Ext.bd | refine Ext.bs ?_ GE301.out | refine Ext.bs ?_ GE307.out) | exact HB.out | exact .refl _ _)) hb); have n3_ := Ext.a (hbox); have n4_ := Ext.a ((by rw [hg]; exact (below_size (by repeat (first | (with_reducible first | exact HB.out | apply Ext.ba | apply Ext.bn | apply Ext.bd | refine Ext.bs ?_ GE301.out | refine Ext.bs ?_ GE307.out) | exact HB.out | exact .refl _ _))) : w.heap.size ≤ gb313)); have n5_ := Ext.a ((by rw [hg]; exact (below_size (by repeat (first | (with_reducible first | exact HB.out | apply Ext.ba | apply Ext.bn | apply Ext.bd | refine Ext.bs ?_ GE301.out | refine Ext.bs ?_ GE307.out) | exact HB.out | exact .refl _ _))) : w.heap.size ≤ gb313)); have n6_ := Ext.a ((by rw [hg]; exact Nat.ne_of_lt (blk_lt BK301.out) : gb301 ≠ gb313)); have n7_ := Ext.a ((by rw [hg]; exact Nat.ne_of_gt (blk_lt BK301.out) : gb313 ≠ gb301)); have n8_ := Ext.a ((by rw [hg]; exact Nat.ne_of_lt (blk_lt BK307.out) : gb307 ≠ gb313)); have n9_ := Ext.a ((by rw [hg]; exact Nat.ne_of_gt (blk_lt BK307.out) : gb313 ≠ gb307)); clear BK301 BK307 HB; have BK301 := n0_; have BK307 := n1_; have HB := n2_; have BK313 := n3_; have GW313 := n4_; have GE313 := n5_; have NB301_313 := n6_; have NB313_301 := n7_; have NB307_313 := n8_; have NB313_307 := n9_; clear n0_ n1_ n2_ n3_ n4_ n5_ n6_ n7_ n8_ n9_; clear hb hbox hg; have hnb13 := NB313_301.out; have hnc13 := NB301_313.out; have hnb14 := NB313_307.out; have hnc14 := NB307_313.out; obtain ⟨hcz15_0, hcz15_1, hcz15_2, hcz15_3⟩ := Ext.cells4 BK313.out; obtain ⟨hfz15_0, hfz15_1, hfz15_2, hfz15_3⟩ := Ext.froz4 BK313.out))
 (try simp only [Act.put, Ext.sb, Ext.sz, Ext.ss])
 go_cut [10] (fun v10 wc => ∃ (kq : Nat) (x10_4 : Bool), v10 = .bool x10_4 ∧ Aside0 (terrierref05_Choose.j0 kq t312 x10_4 t302 t303 t304 t305 t308 t309 t310 t311 = some (r1, r2, r3, r4, r5)) ∧ Aside0 (kq ≤ k) ∧ Aside0 (wc.heap[gb301]? = some (.cells #[.int .u64 0, .int .i64 0, .int .i64 0, .int .i64 0] 31 (0, 0))) ∧ Aside0 (wc.heap[gb307]? = some (.cells #[.int .u64 t302, .int .i64 t303, .int .i64 t304, .int .i64 t305] 31 (0, 0))) ∧ Aside0 (wc.heap[gb313]? = some (.cells #[.int .u64 t308, .int .i64 t309, .int .i64 t310, .int .i64 t311] 31 (0, 0))) ∧ Aside0 (Below w.heap.size w wc))
 case first =>
  have H := HC5.out
  clear HC5
  by_cases c16 : t306 = 0
  ·
   rw [if_pos c16] at H
   have c16b0 : (t306 == 0) = true := beq_iff_eq.mpr c16
   have c16b1 : (t306 != 0) = false := bne_eq_false_iff_eq.mpr c16
   clear c16
   (first | rw [c16b0] | (simp only [i64_w, i32_w]; rw [c16b0]) | skip)
   have H' := Aside0.mk H
   clear H
   have hnb17 := NB307_301.out
   have hnc17 := NB301_307.out
   have hnb18 := NB307_313.out
   have hnc18 := NB313_307.out
   have hcz19_0 : w12.cell? ⟨gb307, 0, none⟩ = some (.int .u64 t302) := (blk_cell BK307.out 0).trans rfl
   have hcz19_1 : w12.cell? ⟨gb307, 1, none⟩ = some (.int .i64 t303) := (blk_cell BK307.out 1).trans rfl
   have hcz19_2 : w12.cell? ⟨gb307, 2, none⟩ = some (.int .i64 t304) := (blk_cell BK307.out 2).trans rfl
   have hcz19_3 : w12.cell? ⟨gb307, 3, none⟩ = some (.int .i64 t305) := (blk_cell BK307.out 3).trans rfl
   have hfz19_0 := blk_frozen BK307.out 0
   have hfz19_1 := blk_frozen BK307.out 1
   have hfz19_2 := blk_frozen BK307.out 2
   have hfz19_3 := blk_frozen BK307.out 3
   go_wp2
   go_meet
   case rel => exact ⟨_, (((Int.tmod t302 2) == 0)), (by first | rfl | (simp; done) | (simp [*]; done)), H', ⟨by first | omega | exact Nat.le_refl _⟩, ⟨by refine blk_far ?_ NB301_313.out _; refine blk_far ?_ NB301_313.out _; refine blk_far ?_ NB301_313.out _; refine blk_far ?_ NB301_313.out _; exact BK301.out⟩, ⟨by refine blk_far ?_ NB307_313.out _; refine blk_far ?_ NB307_313.out _; refine blk_far ?_ NB307_313.out _; refine blk_far ?_ NB307_313.out _; exact BK307.out⟩, ⟨by refine blk_put (cs := #[.int .u64 t308, .int .i64 t309, .int .i64 t310, .int .i64 0]) ?_ 3 _ rfl; refine blk_put (cs := #[.int .u64 t308, .int .i64 t309, .int .i64 0, .int .i64 0]) ?_ 2 _ rfl; refine blk_put (cs := #[.int .u64 t308, .int .i64 0, .int .i64 0, .int .i64 0]) ?_ 1 _ rfl; refine blk_put (cs := #[.int .u64 0, .int .i64 0, .int .i64 0, .int .i64 0]) ?_ 0 _ rfl; exact BK313.out⟩, ⟨by repeat (first | (with_reducible first | exact HB.out | apply Ext.ba | apply Ext.bn | apply Ext.bd | refine Ext.bs ?_ GE301.out | refine Ext.bs ?_ GE307.out | refine Ext.bs ?_ GE313.out) | exact HB.out | exact .refl _ _)⟩⟩
  ·
   rw [if_neg c16] at H
   have c16b0 : (t306 == 0) = false := beq_eq_false_iff_ne.mpr c16
   have c16b1 : (t306 != 0) = true := bne_iff_ne.mpr c16
   (first | rw [c16b0] | (simp only [i64_w, i32_w]; rw [c16b0]) | skip)
   have H' := Aside0.mk H
   clear H
   go_wp2
   go_meet
   case rel => exact ⟨_, (false), (by first | rfl | (simp; done) | (simp [*]; done)), H', ⟨by first | omega | exact Nat.le_refl _⟩, ⟨by refine blk_far ?_ NB301_313.out _; refine blk_far ?_ NB301_313.out _; refine blk_far ?_ NB301_313.out _; refine blk_far ?_ NB301_313.out _; exact BK301.out⟩, ⟨by refine blk_far ?_ NB307_313.out _; refine blk_far ?_ NB307_313.out _; refine blk_far ?_ NB307_313.out _; refine blk_far ?_ NB307_313.out _; exact BK307.out⟩, ⟨by refine blk_put (cs := #[.int .u64 t308, .int .i64 t309, .int .i64 t310, .int .i64 0]) ?_ 3 _ rfl; refine blk_put (cs := #[.int .u64 t308, .int .i64 t309, .int .i64 0, .int .i64 0]) ?_ 2 _ rfl; refine blk_put (cs := #[.int .u64 t308, .int .i64 0, .int .i64 0, .int .i64 0]) ?_ 1 _ rfl; refine blk_put (cs := #[.int .u64 0, .int .i64 0, .int .i64 0, .int .i64 0]) ?_ 0 _ rfl; exact BK313.out⟩, ⟨by repeat (first | (with_reducible first | exact HB.out | apply Ext.ba | apply Ext.bn | apply Ext.bd | refine Ext.bs ?_ GE301.out | refine Ext.bs ?_ GE307.out | refine Ext.bs ?_ GE313.out) | exact HB.out | exact .refl _ _)⟩⟩
 case rest =>
  clear HC5
  try clear c1
  try clear c2
  try clear p2
  try clear c9
  try clear c13
  try clear c14
  try clear c16
  try clear c16b0
  try clear c16b1
  try clear c17
  try clear c18
  try clear c19
  try clear hcz10_0
  try clear hcz10_1
  try clear hcz10_2
  try clear hcz10_3
  try clear hcz15_0
  try clear hcz15_1
  try clear hcz15_2
  try clear hcz15_3
  try clear hcz19_0
  try clear hcz19_1
  try clear hcz19_2
  try clear hcz19_3
  try clear hfz10_0
  try clear hfz10_1
  try clear hfz10_2
  try clear hfz10_3
  try clear hfz15_0
  try clear hfz15_1
  try clear hfz15_2
  try clear hfz15_3
  try clear hfz19_0
  try clear hfz19_1
  try clear hfz19_2
  try clear hfz19_3
  obtain ⟨kq, x10_4, rfl, HA, HJ4, BK301, BK307, BK313, HB⟩ := hcut
  cases kq with
  | zero => exact absurd HA.out (by simp [terrierref05_Choose.j0])
  | succ kj4 =>
   have H := HA.out
   clear HA
   simp only [terrierref05_Choose.j0] at H
   have HC20 := Aside0.mk H
   clear H
   go_upto_region 4 with (fail)
   go_cut [11] (fun v11 wc => ∃ (kq : Nat) (x11_19 : Bool), v11 = .bool x11_19 ∧ Aside0 (terrierref05_Choose.j1 kq x10_4 x11_19 t302 t303 t304 t305 t308 t309 t310 t311 = some (r1, r2, r3, r4, r5)) ∧ Aside0 (kq ≤ kj4) ∧ Aside0 (wc.heap[gb301]? = some (.cells #[.int .u64 0, .int .i64 0, .int .i64 0, .int .i64 0] 31 (0, 0))) ∧ Aside0 (wc.heap[gb307]? = some (.cells #[.int .u64 t302, .int .i64 t303, .int .i64 t304, .int .i64 t305] 31 (0, 0))) ∧ Aside0 (wc.heap[gb313]? = some (.cells #[.int .u64 t308, .int .i64 t309, .int .i64 t310, .int .i64 t311] 31 (0, 0))) ∧ Aside0 (Below w.heap.size w wc))
   case first =>
    have H := HC20.out
    clear HC20
    by_cases c21 : t312 = 0
    ·
     rw [if_pos c21] at H
     have c21b0 : (t312 == 0) = true := beq_iff_eq.mpr c21
     have c21b1 : (t312 != 0) = false := bne_eq_false_iff_eq.mpr c21
     clear c21
     (first | rw [c21b0] | (simp only [i64_w, i32_w]; rw [c21b0]) | skip)
     have H' := Aside0.mk H
     clear H
     have hnb22 := NB313_301.out
     have hnc22 := NB301_313.out
     have hnb23 := NB313_307.out
     have hnc23 := NB307_313.out
     have hcz24_0 : wc.cell? ⟨gb313, 0, none⟩ = some (.int .u64 t308) := (blk_cell BK313.out 0).trans rfl
     have hcz24_1 : wc.cell? ⟨gb313, 1, none⟩ = some (.int .i64 t309) := (blk_cell BK313.out 1).trans rfl
     have hcz24_2 : wc.cell? ⟨gb313, 2, none⟩ = some (.int .i64 t310) := (blk_cell BK313.out 2).trans rfl
     have hcz24_3 : wc.cell? ⟨gb313, 3, none⟩ = some (.int .i64 t311) := (blk_cell BK313.out 3).trans rfl
     have hfz24_0 := blk_frozen BK313.out 0
     have hfz24_1 := blk_frozen BK313.out 1
     have hfz24_2 := blk_frozen BK313.out 2
     have hfz24_3 := blk_frozen BK313.out 3
     go_wp2
     go_meet
     case rel => exact ⟨_, (((Int.tmod t308 2) == 1)), (by first | rfl | (simp; done) | (simp [*]; done)), H', ⟨by have := HJ4.out; first | omega | exact Nat.le_refl _⟩, ⟨by exact BK301.out⟩, ⟨by exact BK307.out⟩, ⟨by exact BK313.out⟩, ⟨by repeat (first | (with_reducible first | exact HB.out | apply Ext.ba | apply Ext.bn | apply Ext.bd | refine Ext.bs ?_ GE301.out | refine Ext.bs ?_ GE307.out | refine Ext.bs ?_ GE313.out) | exact HB.out | exact .refl _ _)⟩⟩
    ·
     rw [if_neg c21] at H
     have c21b0 : (t312 == 0) = false := beq_eq_false_iff_ne.mpr c21
     have c21b1 : (t312 != 0) = true := bne_iff_ne.mpr c21
     (first | rw [c21b0] | (simp only [i64_w, i32_w]; rw [c21b0]) | skip)
     have H' := Aside0.mk H
     clear H
     go_wp2
     go_meet
     case rel => exact ⟨_, (false), (by first | rfl | (simp; done) | (simp [*]; done)), H', ⟨by have := HJ4.out; first | omega | exact Nat.le_refl _⟩, ⟨by exact BK301.out⟩, ⟨by exact BK307.out⟩, ⟨by exact BK313.out⟩, ⟨by repeat (first | (with_reducible first | exact HB.out | apply Ext.ba | apply Ext.bn | apply Ext.bd | refine Ext.bs ?_ GE301.out | refine Ext.bs ?_ GE307.out | refine Ext.bs ?_ GE313.out) | exact HB.out | exact .refl _ _)⟩⟩
   case rest =>
    clear HC20
    try clear c1
    try clear c2
    try clear p2
    try clear c9
    try clear c13
    try clear c14
    try clear c16
    try clear c16b0
    try clear c16b1
    try clear c17
    try clear c18
    try clear c19
    try clear c21
    try clear c21b0
    try clear c21b1
    try clear c22
    try clear c23
    try clear hcz10_0
    try clear hcz10_1
    try clear hcz10_2
    try clear hcz10_3
    try clear hcz15_0
    try clear hcz15_1
    try clear hcz15_2
    try clear hcz15_3
    try clear hcz19_0
    try clear hcz19_1
    try clear hcz19_2
    try clear hcz19_3
    try clear hcz24_0
    try clear hcz24_1
    try clear hcz24_2
    try clear hcz24_3
    try clear hfz10_0
    try clear hfz10_1
    try clear hfz10_2
    try clear hfz10_3
    try clear hfz15_0
    try clear hfz15_1
    try clear hfz15_2
    try clear hfz15_3
    try clear hfz19_0
    try clear hfz19_1
    try clear hfz19_2
    try clear hfz19_3
    try clear hfz24_0
    try clear hfz24_1
    try clear hfz24_2
    try clear hfz24_3
    try clear p2
    obtain ⟨kq, x11_19, rfl, HA, HJ19, BK301, BK307, BK313, HB⟩ := hcut
    cases kq with
    | zero => exact absurd HA.out (by simp [terrierref05_Choose.j1])
    | succ kj19 =>
     have H := HA.out
     clear HA
     simp only [terrierref05_Choose.j1] at H
     have HC25 := Aside0.mk H
     clear H
     go_upto_region 5 with (fail)
     go_cut [49] (fun v49 wc => ∃ (kq : Nat) (x49_24 : Bool), v49 = .bool x49_24 ∧ Aside0 (terrierref05_Choose.j2 kq x11_19 x49_24 t302 t303 t304 t305 t308 t309 t310 t311 = some (r1, r2, r3, r4, r5)) ∧ Aside0 (kq ≤ kj19) ∧ Aside0 (wc.heap[gb301]? = some (.cells #[.int .u64 0, .int .i64 0, .int .i64 0, .int .i64 0] 31 (0, 0))) ∧ Aside0 (wc.heap[gb307]? = some (.cells #[.int .u64 t302, .int .i64 t303, .int .i64 t304, .int .i64 t305] 31 (0, 0))) ∧ Aside0 (wc.heap[gb313]? = some (.cells #[.int .u64 t308, .int .i64 t309, .int .i64 t310, .int .i64 t311] 31 (0, 0))) ∧ Aside0 (Below w.heap.size w wc))
     case first =>
      have H := HC25.out
      clear HC25
      by_cases c26 : x10_4 = true
      ·
       subst c26
       have H1 : (if x11_19 = true then (terrierref05_Choose.j2 kj19 x11_19 (decide (t302 > t308)) t302 t303 t304 t305 t308 t309 t310 t311) else (terrierref05_Choose.j2 kj19 x11_19 true t302 t303 t304 t305 t308 t309 t310 t311)) = some (r1, r2, r3, r4, r5) := by rw [if_pos rfl] at H; exact H
       clear H
       have H := H1
       clear H1
       by_cases c27 : x11_19 = true
       ·
        subst c27
        have H1 : (terrierref05_Choose.j2 kj19 true (decide (t302 > t308)) t302 t303 t304 t305 t308 t309 t310 t311) = some (r1, r2, r3, r4, r5) := by rw [if_pos rfl] at H; exact H
        clear H
        have H := H1
        clear H1
        have H' := Aside0.mk H
        clear H
        have hnb28 := NB307_301.out
        have hnc28 := NB301_307.out
        have hnb29 := NB307_313.out
        have hnc29 := NB313_307.out
        have hcz30_0 : wc.cell? ⟨gb307, 0, none⟩ = some (.int .u64 t302) := (blk_cell BK307.out 0).trans rfl
        have hcz30_1 : wc.cell? ⟨gb307, 1, none⟩ = some (.int .i64 t303) := (blk_cell BK307.out 1).trans rfl
        have hcz30_2 : wc.cell? ⟨gb307, 2, none⟩ = some (.int .i64 t304) := (blk_cell BK307.out 2).trans rfl
        have hcz30_3 : wc.cell? ⟨gb307, 3, none⟩ = some (.int .i64 t305) := (blk_cell BK307.out 3).trans rfl
        have hfz30_0 := blk_frozen BK307.out 0
        have hfz30_1 := blk_frozen BK307.out 1
        have hfz30_2 := blk_frozen BK307.out 2
        have hfz30_3 := blk_frozen BK307.out 3
        have hnb31 := NB313_301.out
        have hnc31 := NB301_313.out
        have hcz32_0 : wc.cell? ⟨gb313, 0, none⟩ = some (.int .u64 t308) := (blk_cell BK313.out 0).trans rfl
        have hcz32_1 : wc.cell? ⟨gb313, 1, none⟩ = some (.int .i64 t309) := (blk_cell BK313.out 1).trans rfl
        have hcz32_2 : wc.cell? ⟨gb313, 2, none⟩ = some (.int .i64 t310) := (blk_cell BK313.out 2).trans rfl
        have hcz32_3 : wc.cell? ⟨gb313, 3, none⟩ = some (.int .i64 t311) := (blk_cell BK313.out 3).trans rfl
        have hfz32_0 := blk_frozen BK313.out 0
        have hfz32_1 := blk_frozen BK313.out 1
        have hfz32_2 := blk_frozen BK313.out 2
        have hfz32_3 := blk_frozen BK313.out 3
        go_wp2
        go_meet
        case rel => exact ⟨_, (decide (t302 > t308)), (by first | rfl | (simp; done) | (simp [*]; done)), H', ⟨by have := HJ4.out; have := HJ19.out; first | omega | exact Nat.le_refl _⟩, ⟨by exact BK301.out⟩, ⟨by exact BK307.out⟩, ⟨by exact BK313.out⟩, ⟨by repeat (first | (with_reducible first | exact HB.out | apply Ext.ba | apply Ext.bn | apply Ext.bd | refine Ext.bs ?_ GE301.out | refine Ext.bs ?_ GE307.out | refine Ext.bs ?_ GE313.out) | exact HB.out | exact .refl _ _)⟩⟩
       ·
        replace c27 := Bool.eq_false_iff.mpr c27
        subst c27
        have H1 : (terrierref05_Choose.j2 kj19 false true t302 t303 t304 t305 t308 t309 t310 t311) = some (r1, r2, r3, r4, r5) := by rw [if_neg (show ¬ (false = true) by decide)] at H; exact H
        clear H
        have H := H1
        clear H1
        have H' := Aside0.mk H
        clear H
        go_wp2
        go_meet
        case rel => exact ⟨_, (true), (by first | rfl | (simp; done) | (simp [*]; done)), H', ⟨by have := HJ4.out; have := HJ19.out; first | omega | exact Nat.le_refl _⟩, ⟨by exact BK301.out⟩, ⟨by exact BK307.out⟩, ⟨by exact BK313.out⟩, ⟨by repeat (first | (with_reducible first | exact HB.out | apply Ext.ba | apply Ext.bn | apply Ext.bd | refine Ext.bs ?_ GE301.out | refine Ext.bs ?_ GE307.out | refine Ext.bs ?_ GE313.out) | exact HB.out | exact .refl _ _)⟩⟩
      ·
       replace c26 := Bool.eq_false_iff.mpr c26
       subst c26
       have H1 : (terrierref05_Choose.j2 kj19 x11_19 false t302 t303 t304 t305 t308 t309 t310 t311) = some (r1, r2, r3, r4, r5) := by rw [if_neg (show ¬ (false = true) by decide)] at H; exact H
       clear H
       have H := H1
       clear H1
       have H' := Aside0.mk H
       clear H
       go_wp2
       go_meet
       case rel => exact ⟨_, (false), (by first | rfl | (simp; done) | (simp [*]; done)), H', ⟨by have := HJ4.out; have := HJ19.out; first | omega | exact Nat.le_refl _⟩, ⟨by exact BK301.out⟩, ⟨by exact BK307.out⟩, ⟨by exact BK313.out⟩, ⟨by repeat (first | (with_reducible first | exact HB.out | apply Ext.ba | apply Ext.bn | apply Ext.bd | refine Ext.bs ?_ GE301.out | refine Ext.bs ?_ GE307.out | refine Ext.bs ?_ GE313.out) | exact HB.out | exact .refl _ _)⟩⟩
     case rest =>
      clear HC25
      try clear c1
      try clear c2
      try clear p2
      try clear c3
      try clear c9
      try clear c13
      try clear c14
      try clear c16
      try clear c16b0
      try clear c16b1
      try clear c17
      try clear c18
      try clear c19
      try clear c21
      try clear c21b0
      try clear c21b1
      try clear c22
      try clear c23
      try clear c26
      try clear c27
      try clear c28
      try clear c29
      try clear c31
      try clear hcz10_0
      try clear hcz10_1
      try clear hcz10_2
      try clear hcz10_3
      try clear hcz15_0
      try clear hcz15_1
      try clear hcz15_2
      try clear hcz15_3
      try clear hcz19_0
      try clear hcz19_1
      try clear hcz19_2
      try clear hcz19_3
      try clear hcz24_0
      try clear hcz24_1
      try clear hcz24_2
      try clear hcz24_3
      try clear hcz30_0
      try clear hcz30_1
      try clear hcz30_2
      try clear hcz30_3
      try clear hcz32_0
      try clear hcz32_1
      try clear hcz32_2
      try clear hcz32_3
      try clear hfz10_0
      try clear hfz10_1
      try clear hfz10_2
      try clear hfz10_3
      try clear hfz15_0
      try clear hfz15_1
      try clear hfz15_2
      try clear hfz15_3
      try clear hfz19_0
      try clear hfz19_1
      try clear hfz19_2
      try clear hfz19_3
      try clear hfz24_0
      try clear hfz24_1
      try clear hfz24_2
      try clear hfz24_3
      try clear hfz30_0
      try clear hfz30_1
      try clear hfz30_2
      try clear hfz30_3
      try clear hfz32_0
      try clear hfz32_1
      try clear hfz32_2
      try clear hfz32_3
      try clear p2
      obtain ⟨kq, x49_24, rfl, HA, HJ24, BK301, BK307, BK313, HB⟩ := hcut
      cases kq with
      | zero => exact absurd HA.out (by simp [terrierref05_Choose.j2])
      | succ kj24 =>
       have H := HA.out
       clear HA
       simp only [terrierref05_Choose.j2] at H
       by_cases c33 : x49_24 = true
       ·
        subst c33
        have H1 : (some (t302, t303, t304, t305, 0)) = some (r1, r2, r3, r4, r5) := by rw [if_pos rfl] at H; exact H
        clear H
        have H := H1
        clear H1
        simp only [Option.some.injEq, Prod.mk.injEq] at H
        obtain ⟨rfl, rfl, rfl, rfl, rfl⟩ := H
        have hnb34 := NB307_301.out
        have hnc34 := NB301_307.out
        have hnb35 := NB307_313.out
        have hnc35 := NB313_307.out
        have hcz36_0 : wc.cell? ⟨gb307, 0, none⟩ = some (.int .u64 t302) := (blk_cell BK307.out 0).trans rfl
        have hcz36_1 : wc.cell? ⟨gb307, 1, none⟩ = some (.int .i64 t303) := (blk_cell BK307.out 1).trans rfl
        have hcz36_2 : wc.cell? ⟨gb307, 2, none⟩ = some (.int .i64 t304) := (blk_cell BK307.out 2).trans rfl
        have hcz36_3 : wc.cell? ⟨gb307, 3, none⟩ = some (.int .i64 t305) := (blk_cell BK307.out 3).trans rfl
        have hfz36_0 := blk_frozen BK307.out 0
        have hfz36_1 := blk_frozen BK307.out 1
        have hfz36_2 := blk_frozen BK307.out 2
        have hfz36_3 := blk_frozen BK307.out 3
        have hnb37 := NB301_313.out
        have hnc37 := NB313_301.out
        have hcz38_0 : wc.cell? ⟨gb301, 0, none⟩ = some (.int .u64 0) := (blk_cell BK301.out 0).trans rfl
        have hcz38_1 : wc.cell? ⟨gb301, 1, none⟩ = some (.int .i64 0) := (blk_cell BK301.out 1).trans rfl
        have hcz38_2 : wc.cell? ⟨gb301, 2, none⟩ = some (.int .i64 0) := (blk_cell BK301.out 2).trans rfl
        have hcz38_3 : wc.cell? ⟨gb301, 3, none⟩ = some (.int .i64 0) := (blk_cell BK301.out 3).trans rfl
        have hfz38_0 := blk_frozen BK301.out 0
        have hfz38_1 := blk_frozen BK301.out 1
        have hfz38_2 := blk_frozen BK301.out 2
        have hfz38_3 := blk_frozen BK301.out 3
        go_wp2
        refine bodyPost_ret (results_ct rfl _ _ gb301 31 #[.int .u64 t302, .int .i64 t303, .int .i64 t304, .int .i64 t305] (0, 0) _ rfl (by exact Ext.puts4 BK301.out) Try.underlying31 rfl (by kernel_rfl)) rfl ?_
        exact ⟨by first | rfl | (simp [errW_none, errW_some] <;> rfl) | (simp [*, errW_none, errW_some] <;> rfl), by repeat (first | (with_reducible first | exact HB.out | apply Ext.ba | apply Ext.bn | apply Ext.bd | refine Ext.bs ?_ GE301.out | refine Ext.bs ?_ GE307.out | refine Ext.bs ?_ GE313.out) | exact HB.out | exact .refl _ _)⟩
       ·
        replace c33 := Bool.eq_false_iff.mpr c33
        subst c33
        have H1 : (if x11_19 = true then (some (t308, t309, t310, t311, 0)) else (some (0, 0, 0, 0, 7))) = some (r1, r2, r3, r4, r5) := by rw [if_neg (show ¬ (false = true) by decide)] at H; exact H
        clear H
        have H := H1
        clear H1
        by_cases c39 : x11_19 = true
        ·
         subst c39
         have H1 : (some (t308, t309, t310, t311, 0)) = some (r1, r2, r3, r4, r5) := by rw [if_pos rfl] at H; exact H
         clear H
         have H := H1
         clear H1
         simp only [Option.some.injEq, Prod.mk.injEq] at H
         obtain ⟨rfl, rfl, rfl, rfl, rfl⟩ := H
         have hnb40 := NB313_301.out
         have hnc40 := NB301_313.out
         have hnb41 := NB313_307.out
         have hnc41 := NB307_313.out
         have hcz42_0 : wc.cell? ⟨gb313, 0, none⟩ = some (.int .u64 t308) := (blk_cell BK313.out 0).trans rfl
         have hcz42_1 : wc.cell? ⟨gb313, 1, none⟩ = some (.int .i64 t309) := (blk_cell BK313.out 1).trans rfl
         have hcz42_2 : wc.cell? ⟨gb313, 2, none⟩ = some (.int .i64 t310) := (blk_cell BK313.out 2).trans rfl
         have hcz42_3 : wc.cell? ⟨gb313, 3, none⟩ = some (.int .i64 t311) := (blk_cell BK313.out 3).trans rfl
         have hfz42_0 := blk_frozen BK313.out 0
         have hfz42_1 := blk_frozen BK313.out 1
         have hfz42_2 := blk_frozen BK313.out 2
         have hfz42_3 := blk_frozen BK313.out 3
         have hnb43 := NB301_307.out
         have hnc43 := NB307_301.out
         have hcz44_0 : wc.cell? ⟨gb301, 0, none⟩ = some (.int .u64 0) := (blk_cell BK301.out 0).trans rfl
         have hcz44_1 : wc.cell? ⟨gb301, 1, none⟩ = some (.int .i64 0) := (blk_cell BK301.out 1).trans rfl
         have hcz44_2 : wc.cell? ⟨gb301, 2, none⟩ = some (.int .i64 0) := (blk_cell BK301.out 2).trans rfl
         have hcz44_3 : wc.cell? ⟨gb301, 3, none⟩ = some (.int .i64 0) := (blk_cell BK301.out 3).trans rfl
         have hfz44_0 := blk_frozen BK301.out 0
         have hfz44_1 := blk_frozen BK301.out 1
         have hfz44_2 := blk_frozen BK301.out 2
         have hfz44_3 := blk_frozen BK301.out 3
         go_wp2
         refine bodyPost_ret (results_ct rfl _ _ gb301 31 #[.int .u64 t308, .int .i64 t309, .int .i64 t310, .int .i64 t311] (0, 0) _ rfl (by exact Ext.puts4 BK301.out) Try.underlying31 rfl (by kernel_rfl)) rfl ?_
         exact ⟨by first | rfl | (simp [errW_none, errW_some] <;> rfl) | (simp [*, errW_none, errW_some] <;> rfl), by repeat (first | (with_reducible first | exact HB.out | apply Ext.ba | apply Ext.bn | apply Ext.bd | refine Ext.bs ?_ GE301.out | refine Ext.bs ?_ GE307.out | refine Ext.bs ?_ GE313.out) | exact HB.out | exact .refl _ _)⟩
        ·
         replace c39 := Bool.eq_false_iff.mpr c39
         subst c39
         have H1 : (some (0, 0, 0, 0, 7)) = some (r1, r2, r3, r4, r5) := by rw [if_neg (show ¬ (false = true) by decide)] at H; exact H
         clear H
         have H := H1
         clear H1
         simp only [Option.some.injEq, Prod.mk.injEq] at H
         obtain ⟨rfl, rfl, rfl, rfl, rfl⟩ := H
         have hnb45 := NB301_307.out
         have hnc45 := NB307_301.out
         have hnb46 := NB301_313.out
         have hnc46 := NB313_301.out
         have hcz47_0 : wc.cell? ⟨gb301, 0, none⟩ = some (.int .u64 0) := (blk_cell BK301.out 0).trans rfl
         have hcz47_1 : wc.cell? ⟨gb301, 1, none⟩ = some (.int .i64 0) := (blk_cell BK301.out 1).trans rfl
         have hcz47_2 : wc.cell? ⟨gb301, 2, none⟩ = some (.int .i64 0) := (blk_cell BK301.out 2).trans rfl
         have hcz47_3 : wc.cell? ⟨gb301, 3, none⟩ = some (.int .i64 0) := (blk_cell BK301.out 3).trans rfl
         have hfz47_0 := blk_frozen BK301.out 0
         have hfz47_1 := blk_frozen BK301.out 1
         have hfz47_2 := blk_frozen BK301.out 2
         have hfz47_3 := blk_frozen BK301.out 3
         go_wp2
         refine bodyPost_ret (results_ct rfl _ _ gb301 31 #[.int .u64 0, .int .i64 0, .int .i64 0, .int .i64 0] (0, 0) _ rfl (by exact Ext.puts4 BK301.out) Try.underlying31 rfl (by kernel_rfl)) rfl ?_
         exact ⟨by first | rfl | (simp [errW_none, errW_some] <;> rfl) | (simp [*, errW_none, errW_some] <;> rfl), by repeat (first | (with_reducible first | exact HB.out | apply Ext.ba | apply Ext.bn | apply Ext.bd | refine Ext.bs ?_ GE301.out | refine Ext.bs ?_ GE307.out | refine Ext.bs ?_ GE313.out) | exact HB.out | exact .refl _ _)⟩

end Go.Proofs.Ytfkihcdonddcoaa.PC
