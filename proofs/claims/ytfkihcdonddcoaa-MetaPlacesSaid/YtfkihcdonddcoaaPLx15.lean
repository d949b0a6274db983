-- Written by wip/printx.py, a program of this work over the kit's print, for this claim.
import Derived.Test.YtfkihcdonddcoaaPLx0
import Derived.Test.YtfkihcdonddcoaaPLx1
import Derived.Test.YtfkihcdonddcoaaPLx2
import Derived.Test.YtfkihcdonddcoaaPLx6
import Derived.Test.YtfkihcdonddcoaaPLx12
import Derived.Test.YtfkihcdonddcoaaPLx13
import Derived.Test.YtfkihcdonddcoaaPLx14
namespace Go.Proofs.Ytfkihcdonddcoaa.PL
open Go.RowKit Go.Proofs.YtfkihcdonddcoaaW.PrintWords Go.Proofs.YtfkihcdonddcoaaW.PrintLast Go.Proofs.YtfkihcdonddcoaaW.PrintMore
attribute [local go_sem] max2_int min2_int max_two min_two max_three min_three max_four min_four   -- for this text's walks alone
attribute [local go_sem] Ext.pick_u8 Ext.pick_u32 Ext.pick_u64
set_option linter.unusedVariables false
set_option linter.unusedSimpArgs false

attribute [local go_sem high] eqA24


/-! ### terrierlaw05_MetaPlaces: function 8 -/
mutual
def terrierlaw05_MetaPlaces.j0 : Nat → List Int → Int → List Int → List Int → Int → Int → Int → Int → Int → Int → Int → Int → Option (Bool)
 | 0, _, _, _, _, _, _, _, _, _, _, _, _ => none
 | k + 1, x7, x8, x9, x10, x229000, x229001, x229002, x229003, x230000, x230001, x230002, x230003 => (meta_Choose.f k x9 x10).bind fun bt243 => (if bt243.2.2.2.2 = 7 then (if x8 = 0 then (terrierlaw05_MetaPlaces.j1 k x7 x9 x10 ((Int.tmod x230000 2) != (Int.tmod x229000 2)) x229000 x229001 x229002 x229003 x230000 x230001 x230002 x230003) else (terrierlaw05_MetaPlaces.j1 k x7 x9 x10 true x229000 x229001 x229002 x229003 x230000 x230001 x230002 x230003)) else (some false))
def terrierlaw05_MetaPlaces.j1 : Nat → List Int → List Int → List Int → Bool → Int → Int → Int → Int → Int → Int → Int → Int → Option (Bool)
 | 0, _, _, _, _, _, _, _, _, _, _, _, _ => none
 | k + 1, x7, x9, x10, x58, x229000, x229001, x229002, x229003, x230000, x230001, x230002, x230003 => if x58 = true then (some true) else (if (Int.tmod x229000 2) = 0 then ((meta_Choose.f k x7 x10).bind fun bt249 => (if bt249.2.2.2.2 = 0 then (some (bt249.1 == x230000 && (bt249.2.1 == x230001 && (bt249.2.2.1 == x230002 && (bt249.2.2.2.1 == x230003))))) else (some false))) else ((meta_Choose.f k x9 x7).bind fun bt255 => (if bt255.2.2.2.2 = 0 then (some (bt255.1 == x230000 && (bt255.2.1 == x230001 && (bt255.2.2.1 == x230002 && (bt255.2.2.2.1 == x230003))))) else (some false))))
end
def terrierlaw05_MetaPlaces.f (k : Nat) (a0_0 : Int) (a0_1 : Int) (a0_2 : Int) (a0_3 : Int) (a1_0 : Int) (a1_1 : Int) (a1_2 : Int) (a1_3 : Int) : Option (Bool) := (terrierlaw05_lives.f k).bind fun t230 => (if t230 = true then ((meta_Encode.f k a0_0 a0_1 a0_2 a0_3).bind fun bt231 => ((meta_Encode.f k a1_0 a1_1 a1_2 a1_3).bind fun bt235 => (if bt231.2 = 0 then (if 256 ≤ 281474976710656 then ((some (List.replicate 256 0 : List Int)).bind fun y240 => (if (Int.tmod a0_0 2) = 0 then (terrierlaw05_MetaPlaces.j0 k bt235.1 bt235.2 y240 bt231.1 a0_0 a0_1 a0_2 a0_3 a1_0 a1_1 a1_2 a1_3) else (terrierlaw05_MetaPlaces.j0 k bt235.1 bt235.2 bt231.1 y240 a0_0 a0_1 a0_2 a0_3 a1_0 a1_1 a1_2 a1_3))) else (none)) else ((meta_Right.f k a0_0 a0_1 a0_2 a0_3).bind fun t239 => (some (!t239)))))) else (some false))
theorem terrierlaw05_MetaPlaces.mono_l : ∀ k, (∀ y0 y1 y2 y3 y4 y5 y6 y7 y8 y9 y10 y11, LeO (terrierlaw05_MetaPlaces.j0 k y0 y1 y2 y3 y4 y5 y6 y7 y8 y9 y10 y11) (terrierlaw05_MetaPlaces.j0 (k + 1) y0 y1 y2 y3 y4 y5 y6 y7 y8 y9 y10 y11)) ∧ (∀ y0 y1 y2 y3 y4 y5 y6 y7 y8 y9 y10 y11, LeO (terrierlaw05_MetaPlaces.j1 k y0 y1 y2 y3 y4 y5 y6 y7 y8 y9 y10 y11) (terrierlaw05_MetaPlaces.j1 (k + 1) y0 y1 y2 y3 y4 y5 y6 y7 y8 y9 y10 y11))
 | 0 => ⟨fun _ _ _ _ _ _ _ _ _ _ _ _ r h => by simp [terrierlaw05_MetaPlaces.j0] at h, fun _ _ _ _ _ _ _ _ _ _ _ _ r h => by simp [terrierlaw05_MetaPlaces.j1] at h⟩
 | k + 1 => by
  obtain ⟨ih0, ih1⟩ := terrierlaw05_MetaPlaces.mono_l k
  refine ⟨?_, ?_⟩
  ·
   intro y0 y1 y2 y3 y4 y5 y6 y7 y8 y9 y10 y11
   unfold terrierlaw05_MetaPlaces.j0
   repeat' first
   | (with_reducible exact ih0 _ _ _ _ _ _ _ _ _ _ _ _)
   | (with_reducible exact ih1 _ _ _ _ _ _ _ _ _ _ _ _)
   | (with_reducible exact meta_Choose.mono _ _ _)
   | (with_reducible exact meta_Encode.mono _ _ _ _ _)
   | (with_reducible exact meta_Right.mono _ _ _ _ _)
   | (with_reducible exact terrierlaw05_lives.mono _)
   | (with_reducible exact LeO.refl _)
   | (with_reducible exact LeO.none _)
   | (with_reducible refine LeO.ite ?_ ?_)
   | (with_reducible refine LeO.bind ?_ (fun _ => ?_))
   | exact ih0 _ _ _ _ _ _ _ _ _ _ _ _
   | exact ih1 _ _ _ _ _ _ _ _ _ _ _ _
   | exact meta_Choose.mono _ _ _
   | exact meta_Encode.mono _ _ _ _ _
   | exact meta_Right.mono _ _ _ _ _
   | exact terrierlaw05_lives.mono _
   | exact LeO.none _
   | refine LeO.ite ?_ ?_
   | refine LeO.bind ?_ (fun _ => ?_)
  ·
   intro y0 y1 y2 y3 y4 y5 y6 y7 y8 y9 y10 y11
   unfold terrierlaw05_MetaPlaces.j1
   repeat' first
   | (with_reducible exact ih0 _ _ _ _ _ _ _ _ _ _ _ _)
   | (with_reducible exact ih1 _ _ _ _ _ _ _ _ _ _ _ _)
   | (with_reducible exact meta_Choose.mono _ _ _)
   | (with_reducible exact meta_Encode.mono _ _ _ _ _)
   | (with_reducible exact meta_Right.mono _ _ _ _ _)
   | (with_reducible exact terrierlaw05_lives.mono _)
   | (with_reducible exact LeO.refl _)
   | (with_reducible exact LeO.none _)
   | (with_reducible refine LeO.ite ?_ ?_)
   | (with_reducible refine LeO.bind ?_ (fun _ => ?_))
   | exact ih0 _ _ _ _ _ _ _ _ _ _ _ _
   | exact ih1 _ _ _ _ _ _ _ _ _ _ _ _
   | exact meta_Choose.mono _ _ _
   | exact meta_Encode.mono _ _ _ _ _
   | exact meta_Right.mono _ _ _ _ _
   | exact terrierlaw05_lives.mono _
   | exact LeO.none _
   | refine LeO.ite ?_ ?_
   | refine LeO.bind ?_ (fun _ => ?_)
theorem terrierlaw05_MetaPlaces.mono : ∀ a0 a1 a2 a3 a4 a5 a6 a7 k, LeO (terrierlaw05_MetaPlaces.f k a0 a1 a2 a3 a4 a5 a6 a7) (terrierlaw05_MetaPlaces.f (k + 1) a0 a1 a2 a3 a4 a5 a6 a7) := by
 intro a0 a1 a2 a3 a4 a5 a6 a7 k
 obtain ⟨ih0, ih1⟩ := terrierlaw05_MetaPlaces.mono_l k
 unfold terrierlaw05_MetaPlaces.f
 repeat' first
   | (with_reducible exact ih0 _ _ _ _ _ _ _ _ _ _ _ _)
   | (with_reducible exact ih1 _ _ _ _ _ _ _ _ _ _ _ _)
   | (with_reducible exact meta_Choose.mono _ _ _)
   | (with_reducible exact meta_Encode.mono _ _ _ _ _)
   | (with_reducible exact meta_Right.mono _ _ _ _ _)
   | (with_reducible exact terrierlaw05_lives.mono _)
   | (with_reducible exact LeO.refl _)
   | (with_reducible exact LeO.none _)
   | (with_reducible refine LeO.ite ?_ ?_)
   | (with_reducible refine LeO.bind ?_ (fun _ => ?_))
   | exact ih0 _ _ _ _ _ _ _ _ _ _ _ _
   | exact ih1 _ _ _ _ _ _ _ _ _ _ _ _
   | exact meta_Choose.mono _ _ _
   | exact meta_Encode.mono _ _ _ _ _
   | exact meta_Right.mono _ _ _ _ _
   | exact terrierlaw05_lives.mono _
   | exact LeO.none _
   | refine LeO.ite ?_ ?_
   | refine LeO.bind ?_ (fun _ => ?_)
set_option maxHeartbeats 8000000 in
set_option maxRecDepth 100000 in
theorem terrierlaw05_MetaPlaces.calls (k : Nat) (a0_0 : Int) (a0_1 : Int) (a0_2 : Int) (a0_3 : Int) (a1_0 : Int) (a1_1 : Int) (a1_2 : Int) (a1_3 : Int) (r : Bool) (w : World) (h : terrierlaw05_MetaPlaces.f k a0_0 a0_1 a0_2 a0_3 a1_0 a1_1 a1_2 a1_3 = some r) :
  Calls Try.prog 8 #[.agg #[.int .u64 a0_0, .int .i64 a0_1, .int .i64 a0_2, .int .i64 a0_3], .agg #[.int .u64 a1_0, .int .i64 a1_1, .int .i64 a1_2, .int .i64 a1_3]] w fun e w' => e = .returned (.bool r) ∧ Below w.heap.size w w' := by
 have hu24 := Try.underlying24
 have HB := Ext.a (Below.refl w.heap.size w)
 have H : ((terrierlaw05_lives.f k).bind fun t230 => (if t230 = true then ((meta_Encode.f k a0_0 a0_1 a0_2 a0_3).bind fun bt231 => ((meta_Encode.f k a1_0 a1_1 a1_2 a1_3).bind fun bt235 => (if bt231.2 = 0 then (if 256 ≤ 281474976710656 then ((some (List.replicate 256 0 : List Int)).bind fun y240 => (if (Int.tmod a0_0 2) = 0 then (terrierlaw05_MetaPlaces.j0 k bt235.1 bt235.2 y240 bt231.1 a0_0 a0_1 a0_2 a0_3 a1_0 a1_1 a1_2 a1_3) else (terrierlaw05_MetaPlaces.j0 k bt235.1 bt235.2 bt231.1 y240 a0_0 a0_1 a0_2 a0_3 a1_0 a1_1 a1_2 a1_3))) else (none)) else ((meta_Right.f k a0_0 a0_1 a0_2 a0_3).bind fun t239 => (some (!t239)))))) else (some false))) = some r := h
 clear h
 replace H := Option.bind_eq_some_iff.mp H
 obtain ⟨t230, A30, H⟩ := H
 replace H : (if t230 = true then ((meta_Encode.f k a0_0 a0_1 a0_2 a0_3).bind fun bt231 => ((meta_Encode.f k a1_0 a1_1 a1_2 a1_3).bind fun bt235 => (if bt231.2 = 0 then (if 256 ≤ 281474976710656 then ((some (List.replicate 256 0 : List Int)).bind fun y240 => (if (Int.tmod a0_0 2) = 0 then (terrierlaw05_MetaPlaces.j0 k bt235.1 bt235.2 y240 bt231.1 a0_0 a0_1 a0_2 a0_3 a1_0 a1_1 a1_2 a1_3) else (terrierlaw05_MetaPlaces.j0 k bt235.1 bt235.2 bt231.1 y240 a0_0 a0_1 a0_2 a0_3 a1_0 a1_1 a1_2 a1_3))) else (none)) else ((meta_Right.f k a0_0 a0_1 a0_2 a0_3).bind fun t239 => (some (!t239)))))) else (some false)) = some r := H
 have A3 := Aside0.mk A30
 clear A30
 by_cases c4 : t230 = true
 ·
  subst c4
  have H1 : ((meta_Encode.f k a0_0 a0_1 a0_2 a0_3).bind fun bt231 => ((meta_Encode.f k a1_0 a1_1 a1_2 a1_3).bind fun bt235 => (if bt231.2 = 0 then (if 256 ≤ 281474976710656 then ((some (List.replicate 256 0 : List Int)).bind fun y240 => (if (Int.tmod a0_0 2) = 0 then (terrierlaw05_MetaPlaces.j0 k bt235.1 bt235.2 y240 bt231.1 a0_0 a0_1 a0_2 a0_3 a1_0 a1_1 a1_2 a1_3) else (terrierlaw05_MetaPlaces.j0 k bt235.1 bt235.2 bt231.1 y240 a0_0 a0_1 a0_2 a0_3 a1_0 a1_1 a1_2 a1_3))) else (none)) else ((meta_Right.f k a0_0 a0_1 a0_2 a0_3).bind fun t239 => (some (!t239)))))) = some r := by rw [if_pos rfl] at H; exact H
  clear H
  have H := H1
  clear H1
  replace H := Option.bind_eq_some_iff.mp H
  obtain ⟨⟨t231, t234⟩, A50, H⟩ := H
  replace H : ((meta_Encode.f k a1_0 a1_1 a1_2 a1_3).bind fun bt235 => (if t234 = 0 then (if 256 ≤ 281474976710656 then ((some (List.replicate 256 0 : List Int)).bind fun y240 => (if (Int.tmod a0_0 2) = 0 then (terrierlaw05_MetaPlaces.j0 k bt235.1 bt235.2 y240 t231 a0_0 a0_1 a0_2 a0_3 a1_0 a1_1 a1_2 a1_3) else (terrierlaw05_MetaPlaces.j0 k bt235.1 bt235.2 t231 y240 a0_0 a0_1 a0_2 a0_3 a1_0 a1_1 a1_2 a1_3))) else (none)) else ((meta_Right.f k a0_0 a0_1 a0_2 a0_3).bind fun t239 => (some (!t239))))) = some r := H
  have A5 := Aside0.mk A50
  clear A50
  replace H := Option.bind_eq_some_iff.mp H
  obtain ⟨⟨t235, t238⟩, A60, H⟩ := H
  replace H : (if t234 = 0 then (if 256 ≤ 281474976710656 then ((some (List.replicate 256 0 : List Int)).bind fun y240 => (if (Int.tmod a0_0 2) = 0 then (terrierlaw05_MetaPlaces.j0 k t235 t238 y240 t231 a0_0 a0_1 a0_2 a0_3 a1_0 a1_1 a1_2 a1_3) else (terrierlaw05_MetaPlaces.j0 k t235 t238 t231 y240 a0_0 a0_1 a0_2 a0_3 a1_0 a1_1 a1_2 a1_3))) else (none)) else ((meta_Right.f k a0_0 a0_1 a0_2 a0_3).bind fun t239 => (some (!t239)))) = some r := H
  have A6 := Aside0.mk A60
  clear A60
  by_cases c7 : t234 = 0
  ·
   rw [if_pos c7] at H
   have c7b0 : (t234 == 0) = true := beq_iff_eq.mpr c7
   have c7b1 : (t234 != 0) = false := bne_eq_false_iff_eq.mpr c7
   clear c7
   by_cases c8 : 256 ≤ 281474976710656
   ·
    rw [if_pos c8] at H
    have c8b0 := eq_true c8
    have c8b1 : decide (256 ≤ 281474976710656) = true := decide_eq_true c8
    clear c8
    obtain ⟨y240, hy240⟩ : ∃ y_ : List Int, y_ = (List.replicate 256 0) := ⟨_, rfl⟩
    replace H : (if (Int.tmod a0_0 2) = 0 then (terrierlaw05_MetaPlaces.j0 k t235 t238 y240 t231 a0_0 a0_1 a0_2 a0_3 a1_0 a1_1 a1_2 a1_3) else (terrierlaw05_MetaPlaces.j0 k t235 t238 t231 y240 a0_0 a0_1 a0_2 a0_3 a1_0 a1_1 a1_2 a1_3)) = some r := by first | (rw [hy240]; with_reducible exact H) | (have H2_ := (Option.bind_some _ _).symm.trans H; rw [hy240]; with_reducible exact H2_) | (have H2_ := (Option.bind_some _ _).symm.trans H; with_reducible exact H2_) | with_reducible exact H | (rw [hy240]; exact H) | exact H
    have Ny240 := Aside0.mk hy240
    clear hy240
    have HC9 := Aside0.mk H
    clear H
    go_enter Try.func8, Try.ntmps8
    try go_wp2_with (first | ((with_reducible refine gate_dst (N := 2) rfl ?_); refine box_event ?hg (N := 2) ?hd (cs := #[.int .u64 a0_0, .int .i64 a0_1, .int .i64 a0_2, .int .i64 a0_3]) (t := 24) ?hr ?_; (case hd => rfl); (case hg => rfl); (case hr => first | (go_simp; done) | (go_simp; rfl)); intro gb228 hg w10 hbox hb; have n0_ := Ext.a (below_step (Ext.nB HB.out) hb); have n1_ := Ext.a (hbox); have n2_ := Ext.a ((by rw [hg]; exact (below_size (Ext.nB HB.out)) : w.heap.size ≤ gb228)); have n3_ := Ext.a ((by rw [hg]; exact (below_size (Ext.nB HB.out)) : w.heap.size ≤ gb228)); clear HB; have HB := n0_; have BK228 := n1_; have GW228 := n2_; have GE228 := n3_; clear n0_ n1_ n2_ n3_; clear hb hbox hg) | ((with_reducible refine gate_dst (N := 3) rfl ?_); refine box_event ?hg (N := 3) ?hd (cs := #[.int .u64 a1_0, .int .i64 a1_1, .int .i64 a1_2, .int .i64 a1_3]) (t := 24) ?hr ?_; (case hd => rfl); (case hg => rfl); (case hr => first | (go_simp; done) | (go_simp; rfl)); intro gb229 hg w11 hbox hb; have n0_ := Ext.a (blk_below BK228.out hb); have n1_ := Ext.a (below_step (by repeat (first | (with_reducible first | exact HB.out | apply Ext.ba | apply Ext.bn | apply Ext.bd | refine Ext.bs ?_ GE228.out) | exact HB.out | exact .refl _ _)) hb); have n2_ := Ext.a (hbox); have n3_ := Ext.a ((by rw [hg]; exact (below_size (by repeat (first | (with_reducible first | exact HB.out | apply Ext.ba | apply Ext.bn | apply Ext.bd | refine Ext.bs ?_ GE228.out) | exact HB.out | exact .refl _ _))) : w.heap.size ≤ gb229)); have n4_ := Ext.a ((by rw [hg]; exact (below_size (by repeat (first | (with_reducible first | exact HB.out | apply Ext.ba | apply Ext.bn | apply Ext.bd | refine Ext.bs ?_ GE228.out) | exact HB.out | exact .refl _ _))) : w.heap.size ≤ gb229)); have n5_ := Ext.a ((by rw [hg]; exact Nat.ne_of_lt (blk_lt BK228.out) : gb228 ≠ gb229)); have n6_ := Ext.a ((by rw [hg]; exact Nat.ne_of_gt (blk_lt BK228.out) : gb229 ≠ gb228)); clear BK228 HB; have BK228 := n0_; have HB := n1_; have BK229 := n2_; have GW229 := n3_; have GE229 := n4_; have NB228_229 := n5_; have NB229_228 := n6_; clear n0_ n1_ n2_ n3_ n4_ n5_ n6_; clear hb hbox hg) | ((with_reducible refine gate_callee (f := 9) rfl ?_); refine goesL_ (some 15) rfl rfl Try.func9 (by kernel_rfl) rfl #[] rfl (by (try simp only [List.map_toArray, List.map_cons, List.map_nil]); first | done | rfl | (simp only [List.length_drop, List.length_take]; rfl)) ?_; (with_reducible refine (terrierlaw05_lives.calls k  true _ A3.out).mono ?_); rintro e w12 ⟨rfl, hb⟩; refine ⟨_, rfl, ?_⟩; have n0_ := Ext.a (blk_below BK228.out hb); have n1_ := Ext.a (blk_below BK229.out hb); have n2_ := Ext.a (below_step (by repeat (first | (with_reducible first | exact HB.out | apply Ext.ba | apply Ext.bn | apply Ext.bd | refine Ext.bs ?_ GE228.out | refine Ext.bs ?_ GE229.out) | exact HB.out | exact .refl _ _)) hb); clear BK228 BK229 HB; have BK228 := n0_; have BK229 := n1_; have HB := n2_; clear n0_ n1_ n2_; (try clear hb); (try clear hb2); (try clear hk); (try clear hi); have hnb13 := NB228_229.out; have hnc13 := NB229_228.out; obtain ⟨hcz14_0, hcz14_1, hcz14_2, hcz14_3⟩ := Ext.cells4 BK228.out; obtain ⟨hfz14_0, hfz14_1, hfz14_2, hfz14_3⟩ := Ext.froz4 BK228.out) | ((with_reducible refine gate_callee (f := 10) rfl ?_); refine goesL_ (some 19) rfl rfl Try.func10 (by kernel_rfl) rfl #[.agg #[.int .u64 a0_0, .int .i64 a0_1, .int .i64 a0_2, .int .i64 a0_3]] rfl (by (try simp only [List.map_toArray, List.map_cons, List.map_nil]); first | done | rfl | (simp only [List.length_drop, List.length_take]; rfl)) ?_; (with_reducible refine (meta_Encode.calls k a0_0 a0_1 a0_2 a0_3 t231 t234 _ A5.out).mono ?_); rintro e w15 ⟨v232, rfl, ho0, hb⟩; refine ⟨_, rfl, ?_⟩; have n0_ := Ext.a (Kd.R_lower ho0 (below_size (by repeat (first | (with_reducible first | exact HB.out | apply Ext.ba | apply Ext.bn | apply Ext.bd | refine Ext.bs ?_ GE228.out | refine Ext.bs ?_ GE229.out) | exact HB.out | exact .refl _ _)))); have n1_ := Ext.a (blk_below BK228.out hb); have n2_ := Ext.a (blk_below BK229.out hb); have n3_ := Ext.a (below_step (by repeat (first | (with_reducible first | exact HB.out | apply Ext.ba | apply Ext.bn | apply Ext.bd | refine Ext.bs ?_ GE228.out | refine Ext.bs ?_ GE229.out) | exact HB.out | exact .refl _ _)) hb); clear BK228 BK229 HB; have HO233 := n0_; have BK228 := n1_; have BK229 := n2_; have HB := n3_; clear n0_ n1_ n2_ n3_; (try clear hb); (try clear hb2); (try clear hk); (try clear hi); (try clear ho0); obtain ⟨hcz16_0, hcz16_1, hcz16_2, hcz16_3⟩ := Ext.cells4 BK229.out; obtain ⟨hfz16_0, hfz16_1, hfz16_2, hfz16_3⟩ := Ext.froz4 BK229.out) | ((with_reducible refine gate_callee (f := 10) rfl ?_); refine goesL_ (some 24) rfl rfl Try.func10 (by kernel_rfl) rfl #[.agg #[.int .u64 a1_0, .int .i64 a1_1, .int .i64 a1_2, .int .i64 a1_3]] rfl (by (try simp only [List.map_toArray, List.map_cons, List.map_nil]); first | done | rfl | (simp only [List.length_drop, List.length_take]; rfl)) ?_; (with_reducible refine (meta_Encode.calls k a1_0 a1_1 a1_2 a1_3 t235 t238 _ A6.out).mono ?_); rintro e w17 ⟨v236, rfl, ho0, hb⟩; refine ⟨_, rfl, ?_⟩; have n0_ := Ext.a (Kd.R_elder' (Ext.nR HO233.out) (Kd.R_base ho0) hb); have n1_ := Ext.a (Kd.R_lower (Kd.R_new' ho0 (Kd.R_lt (Ext.nR HO233.out))) (below_size (by repeat (first | (with_reducible first | exact HB.out | apply Ext.ba | apply Ext.bn | apply Ext.bd | refine Ext.bs ?_ GE228.out | refine Ext.bs ?_ GE229.out) | exact HB.out | exact .refl _ _)))); have n2_ := Ext.a (blk_below BK228.out hb); have n3_ := Ext.a (blk_below BK229.out hb); have n4_ := Ext.a (below_step (by repeat (first | (with_reducible first | exact HB.out | apply Ext.ba | apply Ext.bn | apply Ext.bd | refine Ext.bs ?_ GE228.out | refine Ext.bs ?_ GE229.out) | exact HB.out | exact .refl _ _)) hb); clear HO233 BK228 BK229 HB; have HO233 := n0_; have HO237 := n1_; have BK228 := n2_; have BK229 := n3_; have HB := n4_; clear n0_ n1_ n2_ n3_ n4_; (try clear hb); (try clear hb2); (try clear hk); (try clear hi); (try clear ho0)))
    have n0_ := Ext.a (Kd.R_drew HO233.out)
    have n1_ := Ext.a (Kd.R_drew HO237.out)
    have n2_ := Ext.a (blk_drew BK228.out)
    have n3_ := Ext.a (blk_drew BK229.out)
    have n4_ := Ext.a (below_drew1 HB.out)
    clear HO233
    clear HO237
    clear BK228
    clear BK229
    clear HB
    have HO233 := n0_
    have HO237 := n1_
    have BK228 := n2_
    have BK229 := n3_
    have HB := n4_
    clear n0_ n1_ n2_ n3_ n4_
    refine start_ (n := 4) (S := fun w' => True) (ds := []) #[false, false, false, false] (by kernel_rfl) rfl rfl trivial (fun hHeld => ?_)
    generalize w17.drew = w18 at HO233 HO237 BK228 BK229 HB hHeld ⊢
    refine pure_ (i := 0) (N := some 32) (v := ?_) (a' := ?_) #[true, false, false, false] rfl rfl (by kernel_rfl) (fun _ _ _ h => h) (Or.inl ⟨by rfl, ?_⟩) ?_ ?_
    rotate_left
    · intro w'; go_simp; with_reducible rfl
    rotate_left
    · simp only [Act.put, Ext.sb, Ext.sz, Ext.ss, i64_w, i32_w]; rfl
    refine pure_ (i := 2) (N := some 9) (v := ?_) (a' := ?_) #[true, false, true, false] rfl rfl (by kernel_rfl) (fun _ _ _ h => h) (Or.inl ⟨by rfl, ?_⟩) ?_ ?_
    rotate_left
    · intro w'; go_simp; with_reducible rfl
    rotate_left
    · simp only [Act.put, Ext.sb, Ext.sz, Ext.ss, i64_w, i32_w]; rfl
    refine one_ (i := 1) (N := some 33) #[true, true, true, false] rfl rfl (by kernel_rfl) (by decide) (fun K hK => ?_)
    refine Kd.R_make_step (Kd.int .u8) _ 5 (by rfl) (N := 33) rfl 26 _ _ rfl 256 rfl rfl Try.underlying26 (.int .u8 0) 1 info5 rfl (by decide) (by omega) 0 (ok := fun _ => True) (okp := fun _ => True) rfl (fun _ hk => hk) trivial (by omega) (by omega) (Below.refl _ _) (Nat.le_refl _) ?_
    intro v241 w19 ho20 hb hg_ hnew_
    clear hg_ hnew_
    (first | rw [← Ny240.out] at ho20 | (simp only [Int.reduceToNat] at ho20; rw [← Ny240.out] at ho20))
    have n0_ := Ext.a (Kd.R_elder' (Ext.nR HO233.out) (Kd.R_base ho20) hb)
    have n1_ := Ext.a (Kd.R_elder' (Ext.nR HO237.out) (Kd.R_base ho20) hb)
    have n2_ := Ext.a (Kd.R_lower (Kd.R_new' (Kd.R_new' ho20 (Kd.R_lt (Ext.nR HO233.out))) (Kd.R_lt (Ext.nR HO237.out))) (below_size (by repeat (first | (with_reducible first | exact HB.out | apply Ext.ba | apply Ext.bn | apply Ext.bd | refine Ext.bs ?_ GE228.out | refine Ext.bs ?_ GE229.out) | exact HB.out | exact .refl _ _))))
    have n3_ := Ext.a (blk_below BK228.out hb)
    have n4_ := Ext.a (blk_below BK229.out hb)
    have n5_ := Ext.a (below_step (by repeat (first | (with_reducible first | exact HB.out | apply Ext.ba | apply Ext.bn | apply Ext.bd | refine Ext.bs ?_ GE228.out | refine Ext.bs ?_ GE229.out) | exact HB.out | exact .refl _ _)) hb)
    clear HO233
    clear HO237
    clear BK228
    clear BK229
    clear HB
    have HO233 := n0_
    have HO237 := n1_
    have HO242 := n2_
    have BK228 := n3_
    have BK229 := n4_
    have HB := n5_
    clear n0_ n1_ n2_ n3_ n4_ n5_
    clear hb ho20
    refine hK.out _ _ trivial (fun hHeld => ?_)
    clear hK K
    refine norm_ (a' := ?_) ?_ ?_
    rotate_left
    · show Act.put _ (some 33) _ = _; simp only [Act.put, Ext.sb, Ext.sz, Ext.ss, i64_w, i32_w]; rfl
    refine pure_ (i := 3) (N := some 10) (v := ?_) (a' := ?_) #[true, true, true, true] rfl rfl (by kernel_rfl) (fun _ _ _ h => h) (Or.inl ⟨by rfl, ?_⟩) ?_ ?_
    rotate_left
    · intro w'; go_simp; with_reducible rfl
    rotate_left
    · simp only [Act.put, Ext.sb, Ext.sz, Ext.ss, i64_w, i32_w]; rfl
    refine done_ (by kernel_rfl) ?_
    have hcz21_0 : w19.cell? ⟨gb228, 0, none⟩ = some (.int .u64 a0_0) := (blk_cell BK228.out 0).trans rfl
    have hcz21_1 : w19.cell? ⟨gb228, 1, none⟩ = some (.int .i64 a0_1) := (blk_cell BK228.out 1).trans rfl
    have hcz21_2 : w19.cell? ⟨gb228, 2, none⟩ = some (.int .i64 a0_2) := (blk_cell BK228.out 2).trans rfl
    have hcz21_3 : w19.cell? ⟨gb228, 3, none⟩ = some (.int .i64 a0_3) := (blk_cell BK228.out 3).trans rfl
    have hfz21_0 := blk_frozen BK228.out 0
    have hfz21_1 := blk_frozen BK228.out 1
    have hfz21_2 := blk_frozen BK228.out 2
    have hfz21_3 := blk_frozen BK228.out 3
    go_upto_if 37 with (fail)
    go_cut [9, 10] (fun v9 v10 wc => ∃ (kq : Nat) (x9_8 : List Int) (x10_8 : List Int), Aside0 (terrierlaw05_MetaPlaces.j0 kq t235 t238 x9_8 x10_8 a0_0 a0_1 a0_2 a0_3 a1_0 a1_1 a1_2 a1_3 = some r) ∧ Aside0 (kq ≤ k) ∧ Aside0 (Kd.R (Kd.int .u8) 5 wc w.heap.size (fun k_ => some k_ ≠ (v9 : Value).ownBlock ∧ some k_ ≠ (v10 : Value).ownBlock) v236 t235) ∧ Aside0 (Kd.R (Kd.int .u8) 5 wc w.heap.size (fun k_ => some k_ ≠ (v236 : Value).ownBlock ∧ some k_ ≠ (v10 : Value).ownBlock) v9 x9_8) ∧ Aside0 (Kd.R (Kd.int .u8) 5 wc w.heap.size (fun k_ => some k_ ≠ (v236 : Value).ownBlock ∧ some k_ ≠ (v9 : Value).ownBlock) v10 x10_8) ∧ Aside0 (wc.heap[gb228]? = some (.cells #[.int .u64 a0_0, .int .i64 a0_1, .int .i64 a0_2, .int .i64 a0_3] 24 (0, 0))) ∧ Aside0 (wc.heap[gb229]? = some (.cells #[.int .u64 a1_0, .int .i64 a1_1, .int .i64 a1_2, .int .i64 a1_3] 24 (0, 0))) ∧ Aside0 (Below w.heap.size w wc))
    case first =>
     have H := HC9.out
     clear HC9
     by_cases c22 : (Int.tmod a0_0 2) = 0
     ·
      rw [if_pos c22] at H
      have c22b0 : ((Int.tmod a0_0 2) == 0) = true := beq_iff_eq.mpr c22
      have c22b1 : ((Int.tmod a0_0 2) != 0) = false := bne_eq_false_iff_eq.mpr c22
      clear c22
      (first | rw [c22b0] | (simp only [i64_w, i32_w]; rw [c22b0]) | skip)
      have H' := Aside0.mk H
      clear H
      go_wp2
      go_meet
      case rel => exact ⟨_, (y240), (t231), H', ⟨by first | omega | exact Nat.le_refl _⟩, ⟨by (with_reducible repeat (first | apply Kd.R_alloc | apply Kd.R_drewN | apply Kd.R_drew)); exact Kd.R_mono HO237.out (fun _ hk => ⟨hk.2, hk.1.2⟩)⟩, ⟨by (with_reducible repeat (first | apply Kd.R_alloc | apply Kd.R_drewN | apply Kd.R_drew)); exact Kd.R_mono HO242.out (fun _ hk => ⟨hk.2, hk.1.2⟩)⟩, ⟨by (with_reducible repeat (first | apply Kd.R_alloc | apply Kd.R_drewN | apply Kd.R_drew)); exact Kd.R_mono HO233.out (fun _ hk => ⟨hk.1.2, hk.2⟩)⟩, ⟨by exact BK228.out⟩, ⟨by exact BK229.out⟩, ⟨by repeat (first | (with_reducible first | exact HB.out | apply Ext.ba | apply Ext.bn | apply Ext.bd | refine Ext.bs ?_ GE228.out | refine Ext.bs ?_ GE229.out) | exact HB.out | exact .refl _ _)⟩⟩
     ·
      rw [if_neg c22] at H
      have c22b0 : ((Int.tmod a0_0 2) == 0) = false := beq_eq_false_iff_ne.mpr c22
      have c22b1 : ((Int.tmod a0_0 2) != 0) = true := bne_iff_ne.mpr c22
      (first | rw [c22b0] | (simp only [i64_w, i32_w]; rw [c22b0]) | skip)
      have H' := Aside0.mk H
      clear H
      go_wp2
      go_meet
      case rel => exact ⟨_, (t231), (y240), H', ⟨by first | omega | exact Nat.le_refl _⟩, ⟨by (with_reducible repeat (first | apply Kd.R_alloc | apply Kd.R_drewN | apply Kd.R_drew)); exact Kd.R_mono HO237.out (fun _ hk => ⟨hk.1.2, hk.2⟩)⟩, ⟨by (with_reducible repeat (first | apply Kd.R_alloc | apply Kd.R_drewN | apply Kd.R_drew)); exact Kd.R_mono HO233.out (fun _ hk => ⟨hk.1.2, hk.2⟩)⟩, ⟨by (with_reducible repeat (first | apply Kd.R_alloc | apply Kd.R_drewN | apply Kd.R_drew)); exact Kd.R_mono HO242.out (fun _ hk => ⟨hk.2, hk.1.2⟩)⟩, ⟨by exact BK228.out⟩, ⟨by exact BK229.out⟩, ⟨by repeat (first | (with_reducible first | exact HB.out | apply Ext.ba | apply Ext.bn | apply Ext.bd | refine Ext.bs ?_ GE228.out | refine Ext.bs ?_ GE229.out) | exact HB.out | exact .refl _ _)⟩⟩
    case rest =>
     clear HC9
     try clear c1
     try clear c2
     try clear p2
     try clear c4
     try clear c7
     try clear c7b0
     try clear c7b1
     try clear c8
     try clear c8b0
     try clear c8b1
     try clear c9
     try clear c10
     try clear c13
     try clear c22
     try clear c22b0
     try clear c22b1
     try clear hcz14_0
     try clear hcz14_1
     try clear hcz14_2
     try clear hcz14_3
     try clear hcz16_0
     try clear hcz16_1
     try clear hcz16_2
     try clear hcz16_3
     try clear hcz21_0
     try clear hcz21_1
     try clear hcz21_2
     try clear hcz21_3
     try clear hfz14_0
     try clear hfz14_1
     try clear hfz14_2
     try clear hfz14_3
     try clear hfz16_0
     try clear hfz16_1
     try clear hfz16_2
     try clear hfz16_3
     try clear hfz21_0
     try clear hfz21_1
     try clear hfz21_2
     try clear hfz21_3
     obtain ⟨kq, x9_8, x10_8, HA, HJ8, HO_7, HO_9, HO_10, BK228, BK229, HB⟩ := hcut
     cases kq with
     | zero => exact absurd HA.out (by simp [terrierlaw05_MetaPlaces.j0])
     | succ kj8 =>
      have H := HA.out
      clear HA
      simp only [terrierlaw05_MetaPlaces.j0] at H
      replace H := Option.bind_eq_some_iff.mp H
      obtain ⟨⟨t243, t244, t245, t246, t247⟩, A230, H⟩ := H
      replace H : (if t247 = 7 then (if t238 = 0 then (terrierlaw05_MetaPlaces.j1 kj8 t235 x9_8 x10_8 ((Int.tmod a1_0 2) != (Int.tmod a0_0 2)) a0_0 a0_1 a0_2 a0_3 a1_0 a1_1 a1_2 a1_3) else (terrierlaw05_MetaPlaces.j1 kj8 t235 x9_8 x10_8 true a0_0 a0_1 a0_2 a0_3 a1_0 a1_1 a1_2 a1_3)) else (some false)) = some r := H
      have A23 := Aside0.mk A230
      clear A230
      by_cases c24 : t247 = 7
      ·
       rw [if_pos c24] at H
       have c24b0 : (t247 == 7) = true := beq_iff_eq.mpr c24
       have c24b1 : (t247 != 7) = false := bne_eq_false_iff_eq.mpr c24
       clear c24
       have HC25 := Aside0.mk H
       clear H
       obtain ⟨Ao26, co26, eo26⟩ := Kd.R_slice HO_9.out
       subst eo26
       obtain ⟨Ao27, co27, eo27⟩ := Kd.R_slice HO_10.out
       subst eo27
       go_upto_region 13 with (first | ((with_reducible refine gate_callee (f := 20) rfl ?_); refine goesL_ (some 43) rfl rfl Try.func20 (by kernel_rfl) rfl #[.slice Ao26 x9_8.length co26, .slice Ao27 x10_8.length co27] rfl (by (try simp only [List.map_toArray, List.map_cons, List.map_nil]); first | done | rfl | (simp only [List.length_drop, List.length_take]; rfl)) ?_; (with_reducible refine (meta_Choose.calls kj8 (fun k_ => some k_ = (.slice Ao26 x9_8.length co26 : Value).ownBlock) _ _ x9_8 (fun k_ => some k_ = (.slice Ao27 x10_8.length co27 : Value).ownBlock) _ _ x10_8 t243 t244 t245 t246 t247 _ ?side1 ?side2 A23.out).mono ?_); (case side1 => exact Kd.R_V (Kd.R_tight rfl (Kd.R_types (Kd.R_types (HO_9.out) BK228.out (by decide)) BK229.out (by decide)))); (case side2 => exact Kd.R_V (Kd.R_tight rfl (Kd.R_types (Kd.R_types (HO_10.out) BK228.out (by decide)) BK229.out (by decide)))); rintro e w28 ⟨rfl, hb⟩; refine ⟨_, rfl, ?_⟩; have n0_ := Ext.a (Kd.R_below (Ext.nR HO_7.out) hb); have n1_ := Ext.a (Kd.R_below (Ext.nR HO_9.out) hb); have n2_ := Ext.a (Kd.R_below (Ext.nR HO_10.out) hb); have n3_ := Ext.a (blk_below BK228.out hb); have n4_ := Ext.a (blk_below BK229.out hb); have n5_ := Ext.a (below_step (by repeat (first | (with_reducible first | exact HB.out | apply Ext.ba | apply Ext.bn | apply Ext.bd | refine Ext.bs ?_ GE228.out | refine Ext.bs ?_ GE229.out) | exact HB.out | exact .refl _ _)) hb); clear HO_7 HO_9 HO_10 BK228 BK229 HB; have HO_7 := n0_; have HO_9 := n1_; have HO_10 := n2_; have BK228 := n3_; have BK229 := n4_; have HB := n5_; clear n0_ n1_ n2_ n3_ n4_ n5_; (try clear hb); (try clear hb2); (try clear hk); (try clear hi)) | ((with_reducible refine gate_dst (N := 11) rfl ?_); refine box_event ?hg (N := 11) ?hd (cs := #[.int .u64 0, .int .i64 0, .int .i64 0, .int .i64 0]) (t := 24) ?hr ?_; (case hd => rfl); (case hg => rfl); (case hr => first | (go_simp; done) | (go_simp; rfl)); intro gb248 hg w29 hbox hb; have n0_ := Ext.a (Kd.R_below (Ext.nR HO_7.out) hb); have n1_ := Ext.a (Kd.R_below (Ext.nR HO_9.out) hb); have n2_ := Ext.a (Kd.R_below (Ext.nR HO_10.out) hb); have n3_ := Ext.a (blk_below BK228.out hb); have n4_ := Ext.a (blk_below BK229.out hb); have n5_ := Ext.a (below_step (by repeat (first | (with_reducible first | exact HB.out | apply Ext.ba | apply Ext.bn | apply Ext.bd | refine Ext.bs ?_ GE228.out | refine Ext.bs ?_ GE229.out) | exact HB.out | exact .refl _ _)) hb); have n6_ := Ext.a (hbox); have n7_ := Ext.a ((by rw [hg]; exact (below_size (by repeat (first | (with_reducible first | exact HB.out | apply Ext.ba | apply Ext.bn | apply Ext.bd | refine Ext.bs ?_ GE228.out | refine Ext.bs ?_ GE229.out) | exact HB.out | exact .refl _ _))) : w.heap.size ≤ gb248)); have n8_ := Ext.a ((by rw [hg]; exact (below_size (by repeat (first | (with_reducible first | exact HB.out | apply Ext.ba | apply Ext.bn | apply Ext.bd | refine Ext.bs ?_ GE228.out | refine Ext.bs ?_ GE229.out) | exact HB.out | exact .refl _ _))) : w.heap.size ≤ gb248)); have n9_ := Ext.a ((by rw [hg]; exact Nat.ne_of_lt (blk_lt BK228.out) : gb228 ≠ gb248)); have n10_ := Ext.a ((by rw [hg]; exact Nat.ne_of_gt (blk_lt BK228.out) : gb248 ≠ gb228)); have n11_ := Ext.a ((by rw [hg]; exact Nat.ne_of_lt (blk_lt BK229.out) : gb229 ≠ gb248)); have n12_ := Ext.a ((by rw [hg]; exact Nat.ne_of_gt (blk_lt BK229.out) : gb248 ≠ gb229)); clear HO_7 HO_9 HO_10 BK228 BK229 HB; have HO_7 := n0_; have HO_9 := n1_; have HO_10 := n2_; have BK228 := n3_; have BK229 := n4_; have HB := n5_; have BK248 := n6_; have GW248 := n7_; have GE248 := n8_; have NB228_248 := n9_; have NB248_228 := n10_; have NB229_248 := n11_; have NB248_229 := n12_; clear n0_ n1_ n2_ n3_ n4_ n5_ n6_ n7_ n8_ n9_ n10_ n11_ n12_; clear hb hbox hg; have hnb30 := NB248_228.out; have hnc30 := NB228_248.out; have hnb31 := NB248_229.out; have hnc31 := NB229_248.out; obtain ⟨hcz32_0, hcz32_1, hcz32_2, hcz32_3⟩ := Ext.cells4 BK248.out; obtain ⟨hfz32_0, hfz32_1, hfz32_2, hfz32_3⟩ := Ext.froz4 BK248.out))
       (try simp only [Act.put, Ext.sb, Ext.sz, Ext.ss])
       go_cut [58] (fun v58 wc => ∃ (kq : Nat) (x58_24 : Bool), v58 = .bool x58_24 ∧ Aside0 (terrierlaw05_MetaPlaces.j1 kq t235 x9_8 x10_8 x58_24 a0_0 a0_1 a0_2 a0_3 a1_0 a1_1 a1_2 a1_3 = some r) ∧ Aside0 (kq ≤ kj8) ∧ Aside0 (Kd.R (Kd.int .u8) 5 wc w.heap.size (fun k_ => some k_ ≠ ((.slice Ao26 x9_8.length co26) : Value).ownBlock ∧ some k_ ≠ ((.slice Ao27 x10_8.length co27) : Value).ownBlock) v236 t235) ∧ Aside0 (Kd.R (Kd.int .u8) 5 wc w.heap.size (fun k_ => some k_ ≠ (v236 : Value).ownBlock ∧ some k_ ≠ ((.slice Ao27 x10_8.length co27) : Value).ownBlock) (.slice Ao26 x9_8.length co26) x9_8) ∧ Aside0 (Kd.R (Kd.int .u8) 5 wc w.heap.size (fun k_ => some k_ ≠ (v236 : Value).ownBlock ∧ some k_ ≠ ((.slice Ao26 x9_8.length co26) : Value).ownBlock) (.slice Ao27 x10_8.length co27) x10_8) ∧ Aside0 (wc.heap[gb228]? = some (.cells #[.int .u64 a0_0, .int .i64 a0_1, .int .i64 a0_2, .int .i64 a0_3] 24 (0, 0))) ∧ Aside0 (wc.heap[gb229]? = some (.cells #[.int .u64 a1_0, .int .i64 a1_1, .int .i64 a1_2, .int .i64 a1_3] 24 (0, 0))) ∧ Aside0 (wc.heap[gb248]? = some (.cells #[.int .u64 t243, .int .i64 t244, .int .i64 t245, .int .i64 t246] 24 (0, 0))) ∧ Aside0 (Below w.heap.size w wc))
       case first =>
        have H := HC25.out
        clear HC25
        by_cases c33 : t238 = 0
        ·
         rw [if_pos c33] at H
         have c33b0 : (t238 == 0) = true := beq_iff_eq.mpr c33
         have c33b1 : (t238 != 0) = false := bne_eq_false_iff_eq.mpr c33
         clear c33
         (first | rw [c33b0] | (simp only [i64_w, i32_w]; rw [c33b0]) | skip)
         have H' := Aside0.mk H
         clear H
         have hnb34 := NB229_228.out
         have hnc34 := NB228_229.out
         have hnb35 := NB229_248.out
         have hnc35 := NB248_229.out
         have hcz36_0 : w29.cell? ⟨gb229, 0, none⟩ = some (.int .u64 a1_0) := (blk_cell BK229.out 0).trans rfl
         have hcz36_1 : w29.cell? ⟨gb229, 1, none⟩ = some (.int .i64 a1_1) := (blk_cell BK229.out 1).trans rfl
         have hcz36_2 : w29.cell? ⟨gb229, 2, none⟩ = some (.int .i64 a1_2) := (blk_cell BK229.out 2).trans rfl
         have hcz36_3 : w29.cell? ⟨gb229, 3, none⟩ = some (.int .i64 a1_3) := (blk_cell BK229.out 3).trans rfl
         have hfz36_0 := blk_frozen BK229.out 0
         have hfz36_1 := blk_frozen BK229.out 1
         have hfz36_2 := blk_frozen BK229.out 2
         have hfz36_3 := blk_frozen BK229.out 3
         have hnb37 := NB228_248.out
         have hnc37 := NB248_228.out
         have hcz38_0 : w29.cell? ⟨gb228, 0, none⟩ = some (.int .u64 a0_0) := (blk_cell BK228.out 0).trans rfl
         have hcz38_1 : w29.cell? ⟨gb228, 1, none⟩ = some (.int .i64 a0_1) := (blk_cell BK228.out 1).trans rfl
         have hcz38_2 : w29.cell? ⟨gb228, 2, none⟩ = some (.int .i64 a0_2) := (blk_cell BK228.out 2).trans rfl
         have hcz38_3 : w29.cell? ⟨gb228, 3, none⟩ = some (.int .i64 a0_3) := (blk_cell BK228.out 3).trans rfl
         have hfz38_0 := blk_frozen BK228.out 0
         have hfz38_1 := blk_frozen BK228.out 1
         have hfz38_2 := blk_frozen BK228.out 2
         have hfz38_3 := blk_frozen BK228.out 3
         go_wp2
         go_meet
         case rel => exact ⟨_, (((Int.tmod a1_0 2) != (Int.tmod a0_0 2))), (by first | rfl | (simp; done) | (simp [*]; done)), H', ⟨by have := HJ8.out; first | omega | exact Nat.le_refl _⟩, ⟨by (with_reducible repeat (first | apply Kd.R_alloc | apply Kd.R_drewN | apply Kd.R_drew)); exact Kd.R_mono (Kd.R_far (p := ⟨gb248, 3, none⟩) (Kd.R_far (p := ⟨gb248, 2, none⟩) (Kd.R_far (p := ⟨gb248, 1, none⟩) (Kd.R_far (p := ⟨gb248, 0, none⟩) (Kd.R_types HO_7.out BK248.out (by decide)) (fun _ hk => hk.2) (.int .u64 t243)) (fun _ hk => hk.2) (.int .i64 t244)) (fun _ hk => hk.2) (.int .i64 t245)) (fun _ hk => hk.2) (.int .i64 t246)) (fun _ hk => ⟨hk.1.1, hk.1.2⟩)⟩, ⟨by (with_reducible repeat (first | apply Kd.R_alloc | apply Kd.R_drewN | apply Kd.R_drew)); exact Kd.R_mono (Kd.R_far (p := ⟨gb248, 3, none⟩) (Kd.R_far (p := ⟨gb248, 2, none⟩) (Kd.R_far (p := ⟨gb248, 1, none⟩) (Kd.R_far (p := ⟨gb248, 0, none⟩) (Kd.R_types HO_9.out BK248.out (by decide)) (fun _ hk => hk.2) (.int .u64 t243)) (fun _ hk => hk.2) (.int .i64 t244)) (fun _ hk => hk.2) (.int .i64 t245)) (fun _ hk => hk.2) (.int .i64 t246)) (fun _ hk => ⟨hk.1.1, hk.1.2⟩)⟩, ⟨by (with_reducible repeat (first | apply Kd.R_alloc | apply Kd.R_drewN | apply Kd.R_drew)); exact Kd.R_mono (Kd.R_far (p := ⟨gb248, 3, none⟩) (Kd.R_far (p := ⟨gb248, 2, none⟩) (Kd.R_far (p := ⟨gb248, 1, none⟩) (Kd.R_far (p := ⟨gb248, 0, none⟩) (Kd.R_types HO_10.out BK248.out (by decide)) (fun _ hk => hk.2) (.int .u64 t243)) (fun _ hk => hk.2) (.int .i64 t244)) (fun _ hk => hk.2) (.int .i64 t245)) (fun _ hk => hk.2) (.int .i64 t246)) (fun _ hk => ⟨hk.1.1, hk.1.2⟩)⟩, ⟨by refine blk_far ?_ NB228_248.out _; refine blk_far ?_ NB228_248.out _; refine blk_far ?_ NB228_248.out _; refine blk_far ?_ NB228_248.out _; exact BK228.out⟩, ⟨by refine blk_far ?_ NB229_248.out _; refine blk_far ?_ NB229_248.out _; refine blk_far ?_ NB229_248.out _; refine blk_far ?_ NB229_248.out _; exact BK229.out⟩, ⟨by refine blk_put (cs := #[.int .u64 t243, .int .i64 t244, .int .i64 t245, .int .i64 0]) ?_ 3 _ rfl; refine blk_put (cs := #[.int .u64 t243, .int .i64 t244, .int .i64 0, .int .i64 0]) ?_ 2 _ rfl; refine blk_put (cs := #[.int .u64 t243, .int .i64 0, .int .i64 0, .int .i64 0]) ?_ 1 _ rfl; refine blk_put (cs := #[.int .u64 0, .int .i64 0, .int .i64 0, .int .i64 0]) ?_ 0 _ rfl; exact BK248.out⟩, ⟨by repeat (first | (with_reducible first | exact HB.out | apply Ext.ba | apply Ext.bn | apply Ext.bd | refine Ext.bs ?_ GE228.out | refine Ext.bs ?_ GE229.out | refine Ext.bs ?_ GE248.out) | exact HB.out | exact .refl _ _)⟩⟩
        ·
         rw [if_neg c33] at H
         have c33b0 : (t238 == 0) = false := beq_eq_false_iff_ne.mpr c33
         have c33b1 : (t238 != 0) = true := bne_iff_ne.mpr c33
         (first | rw [c33b0] | (simp only [i64_w, i32_w]; rw [c33b0]) | skip)
         have H' := Aside0.mk H
         clear H
         go_wp2
         go_meet
         case rel => exact ⟨_, (true), (by first | rfl | (simp; done) | (simp [*]; done)), H', ⟨by have := HJ8.out; first | omega | exact Nat.le_refl _⟩, ⟨by (with_reducible repeat (first | apply Kd.R_alloc | apply Kd.R_drewN | apply Kd.R_drew)); exact Kd.R_mono (Kd.R_far (p := ⟨gb248, 3, none⟩) (Kd.R_far (p := ⟨gb248, 2, none⟩) (Kd.R_far (p := ⟨gb248, 1, none⟩) (Kd.R_far (p := ⟨gb248, 0, none⟩) (Kd.R_types HO_7.out BK248.out (by decide)) (fun _ hk => hk.2) (.int .u64 t243)) (fun _ hk => hk.2) (.int .i64 t244)) (fun _ hk => hk.2) (.int .i64 t245)) (fun _ hk => hk.2) (.int .i64 t246)) (fun _ hk => ⟨hk.1.1, hk.1.2⟩)⟩, ⟨by (with_reducible repeat (first | apply Kd.R_alloc | apply Kd.R_drewN | apply Kd.R_drew)); exact Kd.R_mono (Kd.R_far (p := ⟨gb248, 3, none⟩) (Kd.R_far (p := ⟨gb248, 2, none⟩) (Kd.R_far (p := ⟨gb248, 1, none⟩) (Kd.R_far (p := ⟨gb248, 0, none⟩) (Kd.R_types HO_9.out BK248.out (by decide)) (fun _ hk => hk.2) (.int .u64 t243)) (fun _ hk => hk.2) (.int .i64 t244)) (fun _ hk => hk.2) (.int .i64 t245)) (fun _ hk => hk.2) (.int .i64 t246)) (fun _ hk => ⟨hk.1.1, hk.1.2⟩)⟩, ⟨by (with_reducible repeat (first | apply Kd.R_alloc | apply Kd.R_drewN | apply Kd.R_drew)); exact Kd.R_mono (Kd.R_far (p := ⟨gb248, 3, none⟩) (Kd.R_far (p := ⟨gb248, 2, none⟩) (Kd.R_far (p := ⟨gb248, 1, none⟩) (Kd.R_far (p := ⟨gb248, 0, none⟩) (Kd.R_types HO_10.out BK248.out (by decide)) (fun _ hk => hk.2) (.int .u64 t243)) (fun _ hk => hk.2) (.int .i64 t244)) (fun _ hk => hk.2) (.int .i64 t245)) (fun _ hk => hk.2) (.int .i64 t246)) (fun _ hk => ⟨hk.1.1, hk.1.2⟩)⟩, ⟨by refine blk_far ?_ NB228_248.out _; refine blk_far ?_ NB228_248.out _; refine blk_far ?_ NB228_248.out _; refine blk_far ?_ NB228_248.out _; exact BK228.out⟩, ⟨by refine blk_far ?_ NB229_248.out _; refine blk_far ?_ NB229_248.out _; refine blk_far ?_ NB229_248.out _; refine blk_far ?_ NB229_248.out _; exact BK229.out⟩, ⟨by refine blk_put (cs := #[.int .u64 t243, .int .i64 t244, .int .i64 t245, .int .i64 0]) ?_ 3 _ rfl; refine blk_put (cs := #[.int .u64 t243, .int .i64 t244, .int .i64 0, .int .i64 0]) ?_ 2 _ rfl; refine blk_put (cs := #[.int .u64 t243, .int .i64 0, .int .i64 0, .int .i64 0]) ?_ 1 _ rfl; refine blk_put (cs := #[.int .u64 0, .int .i64 0, .int .i64 0, .int .i64 0]) ?_ 0 _ rfl; exact BK248.out⟩, ⟨by repeat (first | (with_reducible first | exact HB.out | apply Ext.ba | apply Ext.bn | apply Ext.bd | refine Ext.bs ?_ GE228.out | refine Ext.bs ?_ GE229.out | refine Ext.bs ?_ GE248.out) | exact HB.out | exact .refl _ _)⟩⟩
       case rest =>
        clear HC25
        try clear c1
        try clear c2
        try clear p2
        try clear c3
        try clear c4
        try clear c7
        try clear c7b0
        try clear c7b1
        try clear c8
        try clear c8b0
        try clear c8b1
        try clear c9
        try clear c10
        try clear c13
        try clear c20
        try clear c22
        try clear c22b0
        try clear c22b1
        try clear c24
        try clear c24b0
        try clear c24b1
        try clear c30
        try clear c31
        try clear c33
        try clear c33b0
        try clear c33b1
        try clear c34
        try clear c35
        try clear c37
        try clear hcz14_0
        try clear hcz14_1
        try clear hcz14_2
        try clear hcz14_3
        try clear hcz16_0
        try clear hcz16_1
        try clear hcz16_2
        try clear hcz16_3
        try clear hcz21_0
        try clear hcz21_1
        try clear hcz21_2
        try clear hcz21_3
        try clear hcz32_0
        try clear hcz32_1
        try clear hcz32_2
        try clear hcz32_3
        try clear hcz36_0
        try clear hcz36_1
        try clear hcz36_2
        try clear hcz36_3
        try clear hcz38_0
        try clear hcz38_1
        try clear hcz38_2
        try clear hcz38_3
        try clear hfz14_0
        try clear hfz14_1
        try clear hfz14_2
        try clear hfz14_3
        try clear hfz16_0
        try clear hfz16_1
        try clear hfz16_2
        try clear hfz16_3
        try clear hfz21_0
        try clear hfz21_1
        try clear hfz21_2
        try clear hfz21_3
        try clear hfz32_0
        try clear hfz32_1
        try clear hfz32_2
        try clear hfz32_3
        try clear hfz36_0
        try clear hfz36_1
        try clear hfz36_2
        try clear hfz36_3
        try clear hfz38_0
        try clear hfz38_1
        try clear hfz38_2
        try clear hfz38_3
        try clear p2
        obtain ⟨kq, x58_24, rfl, HA, HJ24, HO_7, HO_9, HO_10, BK228, BK229, BK248, HB⟩ := hcut
        cases kq with
        | zero => exact absurd HA.out (by simp [terrierlaw05_MetaPlaces.j1])
        | succ kj24 =>
         have H := HA.out
         clear HA
         simp only [terrierlaw05_MetaPlaces.j1] at H
         by_cases c39 : x58_24 = true
         ·
          subst c39
          have H1 : (some true) = some r := by rw [if_pos rfl] at H; exact H
          clear H
          have H := H1
          clear H1
          obtain rfl := Option.some.inj H
          go_wp2
          go_ret
          exact ⟨by first | rfl | (simp [errW_none, errW_some] <;> rfl) | (simp [*, errW_none, errW_some] <;> rfl), by repeat (first | (with_reducible first | exact HB.out | apply Ext.ba | apply Ext.bn | apply Ext.bd | refine Ext.bs ?_ GE228.out | refine Ext.bs ?_ GE229.out | refine Ext.bs ?_ GE248.out) | exact HB.out | exact .refl _ _)⟩
         ·
          replace c39 := Bool.eq_false_iff.mpr c39
          subst c39
          have H1 : (if (Int.tmod a0_0 2) = 0 then ((meta_Choose.f kj24 t235 x10_8).bind fun bt249 => (if bt249.2.2.2.2 = 0 then (some (bt249.1 == a1_0 && (bt249.2.1 == a1_1 && (bt249.2.2.1 == a1_2 && (bt249.2.2.2.1 == a1_3))))) else (some false))) else ((meta_Choose.f kj24 x9_8 t235).bind fun bt255 => (if bt255.2.2.2.2 = 0 then (some (bt255.1 == a1_0 && (bt255.2.1 == a1_1 && (bt255.2.2.1 == a1_2 && (bt255.2.2.2.1 == a1_3))))) else (some false)))) = some r := by rw [if_neg (show ¬ (false = true) by decide)] at H; exact H
          clear H
          have H := H1
          clear H1
          by_cases c40 : (Int.tmod a0_0 2) = 0
          ·
           rw [if_pos c40] at H
           have c40b0 : ((Int.tmod a0_0 2) == 0) = true := beq_iff_eq.mpr c40
           have c40b1 : ((Int.tmod a0_0 2) != 0) = false := bne_eq_false_iff_eq.mpr c40
           clear c40
           replace H := Option.bind_eq_some_iff.mp H
           obtain ⟨⟨t249, t250, t251, t252, t253⟩, A410, H⟩ := H
           replace H : (if t253 = 0 then (some (t249 == a1_0 && (t250 == a1_1 && (t251 == a1_2 && (t252 == a1_3))))) else (some false)) = some r := H
           have A41 := Aside0.mk A410
           clear A410
           by_cases c42 : t253 = 0
           ·
            rw [if_pos c42] at H
            have c42b0 : (t253 == 0) = true := beq_iff_eq.mpr c42
            have c42b1 : (t253 != 0) = false := bne_eq_false_iff_eq.mpr c42
            clear c42
            obtain rfl := Option.some.inj H
            have hnb43 := NB228_229.out
            have hnc43 := NB229_228.out
            have hnb44 := NB228_248.out
            have hnc44 := NB248_228.out
            have hcz45_0 : wc.cell? ⟨gb228, 0, none⟩ = some (.int .u64 a0_0) := (blk_cell BK228.out 0).trans rfl
            have hcz45_1 : wc.cell? ⟨gb228, 1, none⟩ = some (.int .i64 a0_1) := (blk_cell BK228.out 1).trans rfl
            have hcz45_2 : wc.cell? ⟨gb228, 2, none⟩ = some (.int .i64 a0_2) := (blk_cell BK228.out 2).trans rfl
            have hcz45_3 : wc.cell? ⟨gb228, 3, none⟩ = some (.int .i64 a0_3) := (blk_cell BK228.out 3).trans rfl
            have hfz45_0 := blk_frozen BK228.out 0
            have hfz45_1 := blk_frozen BK228.out 1
            have hfz45_2 := blk_frozen BK228.out 2
            have hfz45_3 := blk_frozen BK228.out 3
            obtain ⟨Ao46, co46, eo46⟩ := Kd.R_slice HO_7.out
            subst eo46
            go_wp2_with (first | ((with_reducible refine gate_callee (f := 20) rfl ?_); refine goesL_ (some 68) rfl rfl Try.func20 (by kernel_rfl) rfl #[.slice Ao46 t235.length co46, .slice Ao27 x10_8.length co27] rfl (by (try simp only [List.map_toArray, List.map_cons, List.map_nil]); first | done | rfl | (simp only [List.length_drop, List.length_take]; rfl)) ?_; (with_reducible refine (meta_Choose.calls kj24 (fun k_ => some k_ = (.slice Ao46 t235.length co46 : Value).ownBlock) _ _ t235 (fun k_ => some k_ = (.slice Ao27 x10_8.length co27 : Value).ownBlock) _ _ x10_8 t249 t250 t251 t252 t253 _ ?side1 ?side2 A41.out).mono ?_); (case side1 => exact Kd.R_V (Kd.R_tight rfl (Kd.R_types (Kd.R_types (Kd.R_types (HO_7.out) BK228.out (by decide)) BK229.out (by decide)) BK248.out (by decide)))); (case side2 => exact Kd.R_V (Kd.R_tight rfl (Kd.R_types (Kd.R_types (Kd.R_types (HO_10.out) BK228.out (by decide)) BK229.out (by decide)) BK248.out (by decide)))); rintro e w47 ⟨rfl, hb⟩; refine ⟨_, rfl, ?_⟩; have n0_ := Ext.a (Kd.R_below (Ext.nR HO_7.out) hb); have n1_ := Ext.a (Kd.R_below (Ext.nR HO_9.out) hb); have n2_ := Ext.a (Kd.R_below (Ext.nR HO_10.out) hb); have n3_ := Ext.a (blk_below BK228.out hb); have n4_ := Ext.a (blk_below BK229.out hb); have n5_ := Ext.a (blk_below BK248.out hb); have n6_ := Ext.a (below_step (by repeat (first | (with_reducible first | exact HB.out | apply Ext.ba | apply Ext.bn | apply Ext.bd | refine Ext.bs ?_ GE228.out | refine Ext.bs ?_ GE229.out | refine Ext.bs ?_ GE248.out) | exact HB.out | exact .refl _ _)) hb); clear HO_7 HO_9 HO_10 BK228 BK229 BK248 HB; have HO_7 := n0_; have HO_9 := n1_; have HO_10 := n2_; have BK228 := n3_; have BK229 := n4_; have BK248 := n5_; have HB := n6_; clear n0_ n1_ n2_ n3_ n4_ n5_ n6_; (try clear hb); (try clear hb2); (try clear hk); (try clear hi)) | ((with_reducible refine gate_dst (N := 13) rfl ?_); refine box_event ?hg (N := 13) ?hd (cs := #[.int .u64 0, .int .i64 0, .int .i64 0, .int .i64 0]) (t := 24) ?hr ?_; (case hd => rfl); (case hg => rfl); (case hr => first | (go_simp; done) | (go_simp; rfl)); intro gb254 hg w48 hbox hb; have n0_ := Ext.a (Kd.R_below (Ext.nR HO_7.out) hb); have n1_ := Ext.a (Kd.R_below (Ext.nR HO_9.out) hb); have n2_ := Ext.a (Kd.R_below (Ext.nR HO_10.out) hb); have n3_ := Ext.a (blk_below BK228.out hb); have n4_ := Ext.a (blk_below BK229.out hb); have n5_ := Ext.a (blk_below BK248.out hb); have n6_ := Ext.a (below_step (by repeat (first | (with_reducible first | exact HB.out | apply Ext.ba | apply Ext.bn | apply Ext.bd | refine Ext.bs ?_ GE228.out | refine Ext.bs ?_ GE229.out | refine Ext.bs ?_ GE248.out) | exact HB.out | exact .refl _ _)) hb); have n7_ := Ext.a (hbox); have n8_ := Ext.a ((by rw [hg]; exact (below_size (by repeat (first | (with_reducible first | exact HB.out | apply Ext.ba | apply Ext.bn | apply Ext.bd | refine Ext.bs ?_ GE228.out | refine Ext.bs ?_ GE229.out | refine Ext.bs ?_ GE248.out) | exact HB.out | exact .refl _ _))) : w.heap.size ≤ gb254)); have n9_ := Ext.a ((by rw [hg]; exact (below_size (by repeat (first | (with_reducible first | exact HB.out | apply Ext.ba | apply Ext.bn | apply Ext.bd | refine Ext.bs ?_ GE228.out | refine Ext.bs ?_ GE229.out | refine Ext.bs ?_ GE248.out) | exact HB.out | exact .refl _ _))) : w.heap.size ≤ gb254)); have n10_ := Ext.a ((by rw [hg]; exact Nat.ne_of_lt (blk_lt BK228.out) : gb228 ≠ gb254)); have n11_ := Ext.a ((by rw [hg]; exact Nat.ne_of_gt (blk_lt BK228.out) : gb254 ≠ gb228)); have n12_ := Ext.a ((by rw [hg]; exact Nat.ne_of_lt (blk_lt BK229.out) : gb229 ≠ gb254)); have n13_ := Ext.a ((by rw [hg]; exact Nat.ne_of_gt (blk_lt BK229.out) : gb254 ≠ gb229)); have n14_ := Ext.a ((by rw [hg]; exact Nat.ne_of_lt (blk_lt BK248.out) : gb248 ≠ gb254)); have n15_ := Ext.a ((by rw [hg]; exact Nat.ne_of_gt (blk_lt BK248.out) : gb254 ≠ gb248)); clear HO_7 HO_9 HO_10 BK228 BK229 BK248 HB; have HO_7 := n0_; have HO_9 := n1_; have HO_10 := n2_; have BK228 := n3_; have BK229 := n4_; have BK248 := n5_; have HB := n6_; have BK254 := n7_; have GW254 := n8_; have GE254 := n9_; have NB228_254 := n10_; have NB254_228 := n11_; have NB229_254 := n12_; have NB254_229 := n13_; have NB248_254 := n14_; have NB254_248 := n15_; clear n0_ n1_ n2_ n3_ n4_ n5_ n6_ n7_ n8_ n9_ n10_ n11_ n12_ n13_ n14_ n15_; clear hb hbox hg; have hnb49 := NB254_228.out; have hnc49 := NB228_254.out; have hnb50 := NB254_229.out; have hnc50 := NB229_254.out; have hnb51 := NB254_248.out; have hnc51 := NB248_254.out; obtain ⟨hcz52_0, hcz52_1, hcz52_2, hcz52_3⟩ := Ext.cells4 BK254.out; obtain ⟨hfz52_0, hfz52_1, hfz52_2, hfz52_3⟩ := Ext.froz4 BK254.out; have hnb53 := NB229_248.out; have hnc53 := NB248_229.out; obtain ⟨hcz54_0, hcz54_1, hcz54_2, hcz54_3⟩ := Ext.cells4 BK229.out; obtain ⟨hfz54_0, hfz54_1, hfz54_2, hfz54_3⟩ := Ext.froz4 BK229.out))
            go_ret
            exact ⟨by first | rfl | (simp [errW_none, errW_some] <;> rfl) | (simp [*, errW_none, errW_some] <;> rfl), by repeat (first | (with_reducible first | exact HB.out | apply Ext.ba | apply Ext.bn | apply Ext.bd | refine Ext.bs ?_ GE228.out | refine Ext.bs ?_ GE229.out | refine Ext.bs ?_ GE248.out | refine Ext.bs ?_ GE254.out) | exact HB.out | exact .refl _ _)⟩
           ·
            rw [if_neg c42] at H
            have c42b0 : (t253 == 0) = false := beq_eq_false_iff_ne.mpr c42
            have c42b1 : (t253 != 0) = true := bne_iff_ne.mpr c42
            obtain rfl := Option.some.inj H
            have hnb55 := NB228_229.out
            have hnc55 := NB229_228.out
            have hnb56 := NB228_248.out
            have hnc56 := NB248_228.out
            have hcz57_0 : wc.cell? ⟨gb228, 0, none⟩ = some (.int .u64 a0_0) := (blk_cell BK228.out 0).trans rfl
            have hcz57_1 : wc.cell? ⟨gb228, 1, none⟩ = some (.int .i64 a0_1) := (blk_cell BK228.out 1).trans rfl
            have hcz57_2 : wc.cell? ⟨gb228, 2, none⟩ = some (.int .i64 a0_2) := (blk_cell BK228.out 2).trans rfl
            have hcz57_3 : wc.cell? ⟨gb228, 3, none⟩ = some (.int .i64 a0_3) := (blk_cell BK228.out 3).trans rfl
            have hfz57_0 := blk_frozen BK228.out 0
            have hfz57_1 := blk_frozen BK228.out 1
            have hfz57_2 := blk_frozen BK228.out 2
            have hfz57_3 := blk_frozen BK228.out 3
            obtain ⟨Ao58, co58, eo58⟩ := Kd.R_slice HO_7.out
            subst eo58
            go_wp2_with (first | ((with_reducible refine gate_callee (f := 20) rfl ?_); refine goesL_ (some 68) rfl rfl Try.func20 (by kernel_rfl) rfl #[.slice Ao58 t235.length co58, .slice Ao27 x10_8.length co27] rfl (by (try simp only [List.map_toArray, List.map_cons, List.map_nil]); first | done | rfl | (simp only [List.length_drop, List.length_take]; rfl)) ?_; (with_reducible refine (meta_Choose.calls kj24 (fun k_ => some k_ = (.slice Ao58 t235.length co58 : Value).ownBlock) _ _ t235 (fun k_ => some k_ = (.slice Ao27 x10_8.length co27 : Value).ownBlock) _ _ x10_8 t249 t250 t251 t252 t253 _ ?side1 ?side2 A41.out).mono ?_); (case side1 => exact Kd.R_V (Kd.R_tight rfl (Kd.R_types (Kd.R_types (Kd.R_types (HO_7.out) BK228.out (by decide)) BK229.out (by decide)) BK248.out (by decide)))); (case side2 => exact Kd.R_V (Kd.R_tight rfl (Kd.R_types (Kd.R_types (Kd.R_types (HO_10.out) BK228.out (by decide)) BK229.out (by decide)) BK248.out (by decide)))); rintro e w59 ⟨rfl, hb⟩; refine ⟨_, rfl, ?_⟩; have n0_ := Ext.a (Kd.R_below (Ext.nR HO_7.out) hb); have n1_ := Ext.a (Kd.R_below (Ext.nR HO_9.out) hb); have n2_ := Ext.a (Kd.R_below (Ext.nR HO_10.out) hb); have n3_ := Ext.a (blk_below BK228.out hb); have n4_ := Ext.a (blk_below BK229.out hb); have n5_ := Ext.a (blk_below BK248.out hb); have n6_ := Ext.a (below_step (by repeat (first | (with_reducible first | exact HB.out | apply Ext.ba | apply Ext.bn | apply Ext.bd | refine Ext.bs ?_ GE228.out | refine Ext.bs ?_ GE229.out | refine Ext.bs ?_ GE248.out) | exact HB.out | exact .refl _ _)) hb); clear HO_7 HO_9 HO_10 BK228 BK229 BK248 HB; have HO_7 := n0_; have HO_9 := n1_; have HO_10 := n2_; have BK228 := n3_; have BK229 := n4_; have BK248 := n5_; have HB := n6_; clear n0_ n1_ n2_ n3_ n4_ n5_ n6_; (try clear hb); (try clear hb2); (try clear hk); (try clear hi)) | ((with_reducible refine gate_dst (N := 13) rfl ?_); refine box_event ?hg (N := 13) ?hd (cs := #[.int .u64 0, .int .i64 0, .int .i64 0, .int .i64 0]) (t := 24) ?hr ?_; (case hd => rfl); (case hg => rfl); (case hr => first | (go_simp; done) | (go_simp; rfl)); intro gb254 hg w60 hbox hb; have n0_ := Ext.a (Kd.R_below (Ext.nR HO_7.out) hb); have n1_ := Ext.a (Kd.R_below (Ext.nR HO_9.out) hb); have n2_ := Ext.a (Kd.R_below (Ext.nR HO_10.out) hb); have n3_ := Ext.a (blk_below BK228.out hb); have n4_ := Ext.a (blk_below BK229.out hb); have n5_ := Ext.a (blk_below BK248.out hb); have n6_ := Ext.a (below_step (by repeat (first | (with_reducible first | exact HB.out | apply Ext.ba | apply Ext.bn | apply Ext.bd | refine Ext.bs ?_ GE228.out | refine Ext.bs ?_ GE229.out | refine Ext.bs ?_ GE248.out) | exact HB.out | exact .refl _ _)) hb); have n7_ := Ext.a (hbox); have n8_ := Ext.a ((by rw [hg]; exact (below_size (by repeat (first | (with_reducible first | exact HB.out | apply Ext.ba | apply Ext.bn | apply Ext.bd | refine Ext.bs ?_ GE228.out | refine Ext.bs ?_ GE229.out | refine Ext.bs ?_ GE248.out) | exact HB.out | exact .refl _ _))) : w.heap.size ≤ gb254)); have n9_ := Ext.a ((by rw [hg]; exact (below_size (by repeat (first | (with_reducible first | exact HB.out | apply Ext.ba | apply Ext.bn | apply Ext.bd | refine Ext.bs ?_ GE228.out | refine Ext.bs ?_ GE229.out | refine Ext.bs ?_ GE248.out) | exact HB.out | exact .refl _ _))) : w.heap.size ≤ gb254)); have n10_ := Ext.a ((by rw [hg]; exact Nat.ne_of_lt (blk_lt BK228.out) : gb228 ≠ gb254)); have n11_ := Ext.a ((by rw [hg]; exact Nat.ne_of_gt (blk_lt BK228.out) : gb254 ≠ gb228)); have n12_ := Ext.a ((by rw [hg]; exact Nat.ne_of_lt (blk_lt BK229.out) : gb229 ≠ gb254)); have n13_ := Ext.a ((by rw [hg]; exact Nat.ne_of_gt (blk_lt BK229.out) : gb254 ≠ gb229)); have n14_ := Ext.a ((by rw [hg]; exact Nat.ne_of_lt (blk_lt BK248.out) : gb248 ≠ gb254)); have n15_ := Ext.a ((by rw [hg]; exact Nat.ne_of_gt (blk_lt BK248.out) : gb254 ≠ gb248)); clear HO_7 HO_9 HO_10 BK228 BK229 BK248 HB; have HO_7 := n0_; have HO_9 := n1_; have HO_10 := n2_; have BK228 := n3_; have BK229 := n4_; have BK248 := n5_; have HB := n6_; have BK254 := n7_; have GW254 := n8_; have GE254 := n9_; have NB228_254 := n10_; have NB254_228 := n11_; have NB229_254 := n12_; have NB254_229 := n13_; have NB248_254 := n14_; have NB254_248 := n15_; clear n0_ n1_ n2_ n3_ n4_ n5_ n6_ n7_ n8_ n9_ n10_ n11_ n12_ n13_ n14_ n15_; clear hb hbox hg; have hnb61 := NB254_228.out; have hnc61 := NB228_254.out; have hnb62 := NB254_229.out; have hnc62 := NB229_254.out; have hnb63 := NB254_248.out; have hnc63 := NB248_254.out; obtain ⟨hcz64_0, hcz64_1, hcz64_2, hcz64_3⟩ := Ext.cells4 BK254.out; obtain ⟨hfz64_0, hfz64_1, hfz64_2, hfz64_3⟩ := Ext.froz4 BK254.out))
            go_ret
            exact ⟨by first | rfl | (simp [errW_none, errW_some] <;> rfl) | (simp [*, errW_none, errW_some] <;> rfl), by repeat (first | (with_reducible first | exact HB.out | apply Ext.ba | apply Ext.bn | apply Ext.bd | refine Ext.bs ?_ GE228.out | refine Ext.bs ?_ GE229.out | refine Ext.bs ?_ GE248.out | refine Ext.bs ?_ GE254.out) | exact HB.out | exact .refl _ _)⟩
          ·
           rw [if_neg c40] at H
           have c40b0 : ((Int.tmod a0_0 2) == 0) = false := beq_eq_false_iff_ne.mpr c40
           have c40b1 : ((Int.tmod a0_0 2) != 0) = true := bne_iff_ne.mpr c40
           replace H := Option.bind_eq_some_iff.mp H
           obtain ⟨⟨t255, t256, t257, t258, t259⟩, A650, H⟩ := H
           replace H : (if t259 = 0 then (some (t255 == a1_0 && (t256 == a1_1 && (t257 == a1_2 && (t258 == a1_3))))) else (some false)) = some r := H
           have A65 := Aside0.mk A650
           clear A650
           by_cases c66 : t259 = 0
           ·
            rw [if_pos c66] at H
            have c66b0 : (t259 == 0) = true := beq_iff_eq.mpr c66
            have c66b1 : (t259 != 0) = false := bne_eq_false_iff_eq.mpr c66
            clear c66
            obtain rfl := Option.some.inj H
            have hnb67 := NB228_229.out
            have hnc67 := NB229_228.out
            have hnb68 := NB228_248.out
            have hnc68 := NB248_228.out
            have hcz69_0 : wc.cell? ⟨gb228, 0, none⟩ = some (.int .u64 a0_0) := (blk_cell BK228.out 0).trans rfl
            have hcz69_1 : wc.cell? ⟨gb228, 1, none⟩ = some (.int .i64 a0_1) := (blk_cell BK228.out 1).trans rfl
            have hcz69_2 : wc.cell? ⟨gb228, 2, none⟩ = some (.int .i64 a0_2) := (blk_cell BK228.out 2).trans rfl
            have hcz69_3 : wc.cell? ⟨gb228, 3, none⟩ = some (.int .i64 a0_3) := (blk_cell BK228.out 3).trans rfl
            have hfz69_0 := blk_frozen BK228.out 0
            have hfz69_1 := blk_frozen BK228.out 1
            have hfz69_2 := blk_frozen BK228.out 2
            have hfz69_3 := blk_frozen BK228.out 3
            obtain ⟨Ao70, co70, eo70⟩ := Kd.R_slice HO_7.out
            subst eo70
            go_wp2_with (first | ((with_reducible refine gate_callee (f := 20) rfl ?_); refine goesL_ (some 68) rfl rfl Try.func20 (by kernel_rfl) rfl #[.slice Ao26 x9_8.length co26, .slice Ao70 t235.length co70] rfl (by (try simp only [List.map_toArray, List.map_cons, List.map_nil]); first | done | rfl | (simp only [List.length_drop, List.length_take]; rfl)) ?_; (with_reducible refine (meta_Choose.calls kj24 (fun k_ => some k_ = (.slice Ao26 x9_8.length co26 : Value).ownBlock) _ _ x9_8 (fun k_ => some k_ = (.slice Ao70 t235.length co70 : Value).ownBlock) _ _ t235 t255 t256 t257 t258 t259 _ ?side1 ?side2 A65.out).mono ?_); (case side1 => exact Kd.R_V (Kd.R_tight rfl (Kd.R_types (Kd.R_types (Kd.R_types (HO_9.out) BK228.out (by decide)) BK229.out (by decide)) BK248.out (by decide)))); (case side2 => exact Kd.R_V (Kd.R_tight rfl (Kd.R_types (Kd.R_types (Kd.R_types (HO_7.out) BK228.out (by decide)) BK229.out (by decide)) BK248.out (by decide)))); rintro e w71 ⟨rfl, hb⟩; refine ⟨_, rfl, ?_⟩; have n0_ := Ext.a (Kd.R_below (Ext.nR HO_7.out) hb); have n1_ := Ext.a (Kd.R_below (Ext.nR HO_9.out) hb); have n2_ := Ext.a (Kd.R_below (Ext.nR HO_10.out) hb); have n3_ := Ext.a (blk_below BK228.out hb); have n4_ := Ext.a (blk_below BK229.out hb); have n5_ := Ext.a (blk_below BK248.out hb); have n6_ := Ext.a (below_step (by repeat (first | (with_reducible first | exact HB.out | apply Ext.ba | apply Ext.bn | apply Ext.bd | refine Ext.bs ?_ GE228.out | refine Ext.bs ?_ GE229.out | refine Ext.bs ?_ GE248.out) | exact HB.out | exact .refl _ _)) hb); clear HO_7 HO_9 HO_10 BK228 BK229 BK248 HB; have HO_7 := n0_; have HO_9 := n1_; have HO_10 := n2_; have BK228 := n3_; have BK229 := n4_; have BK248 := n5_; have HB := n6_; clear n0_ n1_ n2_ n3_ n4_ n5_ n6_; (try clear hb); (try clear hb2); (try clear hk); (try clear hi)) | ((with_reducible refine gate_dst (N := 13) rfl ?_); refine box_event ?hg (N := 13) ?hd (cs := #[.int .u64 0, .int .i64 0, .int .i64 0, .int .i64 0]) (t := 24) ?hr ?_; (case hd => rfl); (case hg => rfl); (case hr => first | (go_simp; done) | (go_simp; rfl)); intro gb260 hg w72 hbox hb; have n0_ := Ext.a (Kd.R_below (Ext.nR HO_7.out) hb); have n1_ := Ext.a (Kd.R_below (Ext.nR HO_9.out) hb); have n2_ := Ext.a (Kd.R_below (Ext.nR HO_10.out) hb); have n3_ := Ext.a (blk_below BK228.out hb); have n4_ := Ext.a (blk_below BK229.out hb); have n5_ := Ext.a (blk_below BK248.out hb); have n6_ := Ext.a (below_step (by repeat (first | (with_reducible first | exact HB.out | apply Ext.ba | apply Ext.bn | apply Ext.bd | refine Ext.bs ?_ GE228.out | refine Ext.bs ?_ GE229.out | refine Ext.bs ?_ GE248.out) | exact HB.out | exact .refl _ _)) hb); have n7_ := Ext.a (hbox); have n8_ := Ext.a ((by rw [hg]; exact (below_size (by repeat (first | (with_reducible first | exact HB.out | apply Ext.ba | apply Ext.bn | apply Ext.bd | refine Ext.bs ?_ GE228.out | refine Ext.bs ?_ GE229.out | refine Ext.bs ?_ GE248.out) | exact HB.out | exact .refl _ _))) : w.heap.size ≤ gb260)); have n9_ := Ext.a ((by rw [hg]; exact (below_size (by repeat (first | (with_reducible first | exact HB.out | apply Ext.ba | apply Ext.bn | apply Ext.bd | refine Ext.bs ?_ GE228.out | refine Ext.bs ?_ GE229.out | refine Ext.bs ?_ GE248.out) | exact HB.out | exact .refl _ _))) : w.heap.size ≤ gb260)); have n10_ := Ext.a ((by rw [hg]; exact Nat.ne_of_lt (blk_lt BK228.out) : gb228 ≠ gb260)); have n11_ := Ext.a ((by rw [hg]; exact Nat.ne_of_gt (blk_lt BK228.out) : gb260 ≠ gb228)); have n12_ := Ext.a ((by rw [hg]; exact Nat.ne_of_lt (blk_lt BK229.out) : gb229 ≠ gb260)); have n13_ := Ext.a ((by rw [hg]; exact Nat.ne_of_gt (blk_lt BK229.out) : gb260 ≠ gb229)); have n14_ := Ext.a ((by rw [hg]; exact Nat.ne_of_lt (blk_lt BK248.out) : gb248 ≠ gb260)); have n15_ := Ext.a ((by rw [hg]; exact Nat.ne_of_gt (blk_lt BK248.out) : gb260 ≠ gb248)); clear HO_7 HO_9 HO_10 BK228 BK229 BK248 HB; have HO_7 := n0_; have HO_9 := n1_; have HO_10 := n2_; have BK228 := n3_; have BK229 := n4_; have BK248 := n5_; have HB := n6_; have BK260 := n7_; have GW260 := n8_; have GE260 := n9_; have NB228_260 := n10_; have NB260_228 := n11_; have NB229_260 := n12_; have NB260_229 := n13_; have NB248_260 := n14_; have NB260_248 := n15_; clear n0_ n1_ n2_ n3_ n4_ n5_ n6_ n7_ n8_ n9_ n10_ n11_ n12_ n13_ n14_ n15_; clear hb hbox hg; have hnb73 := NB260_228.out; have hnc73 := NB228_260.out; have hnb74 := NB260_229.out; have hnc74 := NB229_260.out; have hnb75 := NB260_248.out; have hnc75 := NB248_260.out; obtain ⟨hcz76_0, hcz76_1, hcz76_2, hcz76_3⟩ := Ext.cells4 BK260.out; obtain ⟨hfz76_0, hfz76_1, hfz76_2, hfz76_3⟩ := Ext.froz4 BK260.out; have hnb77 := NB229_248.out; have hnc77 := NB248_229.out; obtain ⟨hcz78_0, hcz78_1, hcz78_2, hcz78_3⟩ := Ext.cells4 BK229.out; obtain ⟨hfz78_0, hfz78_1, hfz78_2, hfz78_3⟩ := Ext.froz4 BK229.out))
            go_ret
            exact ⟨by first | rfl | (simp [errW_none, errW_some] <;> rfl) | (simp [*, errW_none, errW_some] <;> rfl), by repeat (first | (with_reducible first | exact HB.out | apply Ext.ba | apply Ext.bn | apply Ext.bd | refine Ext.bs ?_ GE228.out | refine Ext.bs ?_ GE229.out | refine Ext.bs ?_ GE248.out | refine Ext.bs ?_ GE260.out) | exact HB.out | exact .refl _ _)⟩
           ·
            rw [if_neg c66] at H
            have c66b0 : (t259 == 0) = false := beq_eq_false_iff_ne.mpr c66
            have c66b1 : (t259 != 0) = true := bne_iff_ne.mpr c66
            obtain rfl := Option.some.inj H
            have hnb79 := NB228_229.out
            have hnc79 := NB229_228.out
            have hnb80 := NB228_248.out
            have hnc80 := NB248_228.out
            have hcz81_0 : wc.cell? ⟨gb228, 0, none⟩ = some (.int .u64 a0_0) := (blk_cell BK228.out 0).trans rfl
            have hcz81_1 : wc.cell? ⟨gb228, 1, none⟩ = some (.int .i64 a0_1) := (blk_cell BK228.out 1).trans rfl
            have hcz81_2 : wc.cell? ⟨gb228, 2, none⟩ = some (.int .i64 a0_2) := (blk_cell BK228.out 2).trans rfl
            have hcz81_3 : wc.cell? ⟨gb228, 3, none⟩ = some (.int .i64 a0_3) := (blk_cell BK228.out 3).trans rfl
            have hfz81_0 := blk_frozen BK228.out 0
            have hfz81_1 := blk_frozen BK228.out 1
            have hfz81_2 := blk_frozen BK228.out 2
            have hfz81_3 := blk_frozen BK228.out 3
            obtain ⟨Ao82, co82, eo82⟩ := Kd.R_slice HO_7.out
            subst eo82
            go_wp2_with (first | ((with_reducible refine gate_callee (f := 20) rfl ?_); refine goesL_ (some 68) rfl rfl Try.func20 (by kernel_rfl) rfl #[.slice Ao26 x9_8.length co26, .slice Ao82 t235.length co82] rfl (by (try simp only [List.map_toArray, List.map_cons, List.map_nil]); first | done | rfl | (simp only [List.length_drop, List.length_take]; rfl)) ?_; (with_reducible refine (meta_Choose.calls kj24 (fun k_ => some k_ = (.slice Ao26 x9_8.length co26 : Value).ownBlock) _ _ x9_8 (fun k_ => some k_ = (.slice Ao82 t235.length co82 : Value).ownBlock) _ _ t235 t255 t256 t257 t258 t259 _ ?side1 ?side2 A65.out).mono ?_); (case side1 => exact Kd.R_V (Kd.R_tight rfl (Kd.R_types (Kd.R_types (Kd.R_types (HO_9.out) BK228.out (by decide)) BK229.out (by decide)) BK248.out (by decide)))); (case side2 => exact Kd.R_V (Kd.R_tight rfl (Kd.R_types (Kd.R_types (Kd.R_types (HO_7.out) BK228.out (by decide)) BK229.out (by decide)) BK248.out (by decide)))); rintro e w83 ⟨rfl, hb⟩; refine ⟨_, rfl, ?_⟩; have n0_ := Ext.a (Kd.R_below (Ext.nR HO_7.out) hb); have n1_ := Ext.a (Kd.R_below (Ext.nR HO_9.out) hb); have n2_ := Ext.a (Kd.R_below (Ext.nR HO_10.out) hb); have n3_ := Ext.a (blk_below BK228.out hb); have n4_ := Ext.a (blk_below BK229.out hb); have n5_ := Ext.a (blk_below BK248.out hb); have n6_ := Ext.a (below_step (by repeat (first | (with_reducible first | exact HB.out | apply Ext.ba | apply Ext.bn | apply Ext.bd | refine Ext.bs ?_ GE228.out | refine Ext.bs ?_ GE229.out | refine Ext.bs ?_ GE248.out) | exact HB.out | exact .refl _ _)) hb); clear HO_7 HO_9 HO_10 BK228 BK229 BK248 HB; have HO_7 := n0_; have HO_9 := n1_; have HO_10 := n2_; have BK228 := n3_; have BK229 := n4_; have BK248 := n5_; have HB := n6_; clear n0_ n1_ n2_ n3_ n4_ n5_ n6_; (try clear hb); (try clear hb2); (try clear hk); (try clear hi)) | ((with_reducible refine gate_dst (N := 13) rfl ?_); refine box_event ?hg (N := 13) ?hd (cs := #[.int .u64 0, .int .i64 0, .int .i64 0, .int .i64 0]) (t := 24) ?hr ?_; (case hd => rfl); (case hg => rfl); (case hr => first | (go_simp; done) | (go_simp; rfl)); intro gb260 hg w84 hbox hb; have n0_ := Ext.a (Kd.R_below (Ext.nR HO_7.out) hb); have n1_ := Ext.a (Kd.R_below (Ext.nR HO_9.out) hb); have n2_ := Ext.a (Kd.R_below (Ext.nR HO_10.out) hb); have n3_ := Ext.a (blk_below BK228.out hb); have n4_ := Ext.a (blk_below BK229.out hb); have n5_ := Ext.a (blk_below BK248.out hb); have n6_ := Ext.a (below_step (by repeat (first | (with_reducible first | exact HB.out | apply Ext.ba | apply Ext.bn | apply Ext.bd | refine Ext.bs ?_ GE228.out | refine Ext.bs ?_ GE229.out | refine Ext.bs ?_ GE248.out) | exact HB.out | exact .refl _ _)) hb); have n7_ := Ext.a (hbox); have n8_ := Ext.a ((by rw [hg]; exact (below_size (by repeat (first | (with_reducible first | exact HB.out | apply Ext.ba | apply Ext.bn | apply Ext.bd | refine Ext.bs ?_ GE228.out | refine Ext.bs ?_ GE229.out | refine Ext.bs ?_ GE248.out) | exact HB.out | exact .refl _ _))) : w.heap.size ≤ gb260)); have n9_ := Ext.a ((by rw [hg]; exact (below_size (by repeat (first | (with_reducible first | exact HB.out | apply Ext.ba | apply Ext.bn | apply Ext.bd | refine Ext.bs ?_ GE228.out | refine Ext.bs ?_ GE229.out | refine Ext.bs ?_ GE248.out) | exact HB.out | exact .refl _ _))) : w.heap.size ≤ gb260)); have n10_ := Ext.a ((by rw [hg]; exact Nat.ne_of_lt (blk_lt BK228.out) : gb228 ≠ gb260)); have n11_ := Ext.a ((by rw [hg]; exact Nat.ne_of_gt (blk_lt BK228.out) : gb260 ≠ gb228)); have n12_ := Ext.a ((by rw [hg]; exact Nat.ne_of_lt (blk_lt BK229.out) : gb229 ≠ gb260)); have n13_ := Ext.a ((by rw [hg]; exact Nat.ne_of_gt (blk_lt BK229.out) : gb260 ≠ gb229)); have n14_ := Ext.a ((by rw [hg]; exact Nat.ne_of_lt (blk_lt BK248.out) : gb248 ≠ gb260)); have n15_ := Ext.a ((by rw [hg]; exact Nat.ne_of_gt (blk_lt BK248.out) : gb260 ≠ gb248)); clear HO_7 HO_9 HO_10 BK228 BK229 BK248 HB; have HO_7 := n0_; have HO_9 := n1_; have HO_10 := n2_; have BK228 := n3_; have BK229 := n4_; have BK248 := n5_; have HB := n6_; have BK260 := n7_; have GW260 := n8_; have GE260 := n9_; have NB228_260 := n10_; have NB260_228 := n11_; have NB229_260 := n12_; have NB260_229 := n13_; have NB248_260 := n14_; have NB260_248 := n15_; clear n0_ n1_ n2_ n3_ n4_ n5_ n6_ n7_ n8_ n9_ n10_ n11_ n12_ n13_ n14_ n15_; clear hb hbox hg; have hnb85 := NB260_228.out; have hnc85 := NB228_260.out; have hnb86 := NB260_229.out; have hnc86 := NB229_260.out; have hnb87 := NB260_248.out; have hnc87 := NB248_260.out; obtain ⟨hcz88_0, hcz88_1, hcz88_2, hcz88_3⟩ := Ext.cells4 BK260.out; obtain ⟨hfz88_0, hfz88_1, hfz88_2, hfz88_3⟩ := Ext.froz4 BK260.out))
            go_ret
            exact ⟨by first | rfl | (simp [errW_none, errW_some] <;> rfl) | (simp [*, errW_none, errW_some] <;> rfl), by repeat (first | (with_reducible first | exact HB.out | apply Ext.ba | apply Ext.bn | apply Ext.bd | refine Ext.bs ?_ GE228.out | refine Ext.bs ?_ GE229.out | refine Ext.bs ?_ GE248.out | refine Ext.bs ?_ GE260.out) | exact HB.out | exact .refl _ _)⟩
      ·
       rw [if_neg c24] at H
       have c24b0 : (t247 == 7) = false := beq_eq_false_iff_ne.mpr c24
       have c24b1 : (t247 != 7) = true := bne_iff_ne.mpr c24
       obtain rfl := Option.some.inj H
       obtain ⟨Ao89, co89, eo89⟩ := Kd.R_slice HO_9.out
       subst eo89
       obtain ⟨Ao90, co90, eo90⟩ := Kd.R_slice HO_10.out
       subst eo90
       go_wp2_with (first | ((with_reducible refine gate_callee (f := 20) rfl ?_); refine goesL_ (some 43) rfl rfl Try.func20 (by kernel_rfl) rfl #[.slice Ao89 x9_8.length co89, .slice Ao90 x10_8.length co90] rfl (by (try simp only [List.map_toArray, List.map_cons, List.map_nil]); first | done | rfl | (simp only [List.length_drop, List.length_take]; rfl)) ?_; (with_reducible refine (meta_Choose.calls kj8 (fun k_ => some k_ = (.slice Ao89 x9_8.length co89 : Value).ownBlock) _ _ x9_8 (fun k_ => some k_ = (.slice Ao90 x10_8.length co90 : Value).ownBlock) _ _ x10_8 t243 t244 t245 t246 t247 _ ?side1 ?side2 A23.out).mono ?_); (case side1 => exact Kd.R_V (Kd.R_tight rfl (Kd.R_types (Kd.R_types (HO_9.out) BK228.out (by decide)) BK229.out (by decide)))); (case side2 => exact Kd.R_V (Kd.R_tight rfl (Kd.R_types (Kd.R_types (HO_10.out) BK228.out (by decide)) BK229.out (by decide)))); rintro e w91 ⟨rfl, hb⟩; refine ⟨_, rfl, ?_⟩; have n0_ := Ext.a (Kd.R_below (Ext.nR HO_7.out) hb); have n1_ := Ext.a (Kd.R_below (Ext.nR HO_9.out) hb); have n2_ := Ext.a (Kd.R_below (Ext.nR HO_10.out) hb); have n3_ := Ext.a (blk_below BK228.out hb); have n4_ := Ext.a (blk_below BK229.out hb); have n5_ := Ext.a (below_step (by repeat (first | (with_reducible first | exact HB.out | apply Ext.ba | apply Ext.bn | apply Ext.bd | refine Ext.bs ?_ GE228.out | refine Ext.bs ?_ GE229.out) | exact HB.out | exact .refl _ _)) hb); clear HO_7 HO_9 HO_10 BK228 BK229 HB; have HO_7 := n0_; have HO_9 := n1_; have HO_10 := n2_; have BK228 := n3_; have BK229 := n4_; have HB := n5_; clear n0_ n1_ n2_ n3_ n4_ n5_; (try clear hb); (try clear hb2); (try clear hk); (try clear hi)) | ((with_reducible refine gate_dst (N := 11) rfl ?_); refine box_event ?hg (N := 11) ?hd (cs := #[.int .u64 0, .int .i64 0, .int .i64 0, .int .i64 0]) (t := 24) ?hr ?_; (case hd => rfl); (case hg => rfl); (case hr => first | (go_simp; done) | (go_simp; rfl)); intro gb248 hg w92 hbox hb; have n0_ := Ext.a (Kd.R_below (Ext.nR HO_7.out) hb); have n1_ := Ext.a (Kd.R_below (Ext.nR HO_9.out) hb); have n2_ := Ext.a (Kd.R_below (Ext.nR HO_10.out) hb); have n3_ := Ext.a (blk_below BK228.out hb); have n4_ := Ext.a (blk_below BK229.out hb); have n5_ := Ext.a (below_step (by repeat (first | (with_reducible first | exact HB.out | apply Ext.ba | apply Ext.bn | apply Ext.bd | refine Ext.bs ?_ GE228.out | refine Ext.bs ?_ GE229.out) | exact HB.out | exact .refl _ _)) hb); have n6_ := Ext.a (hbox); have n7_ := Ext.a ((by rw [hg]; exact (below_size (by repeat (first | (with_reducible first | exact HB.out | apply Ext.ba | apply Ext.bn | apply Ext.bd | refine Ext.bs ?_ GE228.out | refine Ext.bs ?_ GE229.out) | exact HB.out | exact .refl _ _))) : w.heap.size ≤ gb248)); have n8_ := Ext.a ((by rw [hg]; exact (below_size (by repeat (first | (with_reducible first | exact HB.out | apply Ext.ba | apply Ext.bn | apply Ext.bd | refine Ext.bs ?_ GE228.out | refine Ext.bs ?_ GE229.out) | exact HB.out | exact .refl _ _))) : w.heap.size ≤ gb248)); have n9_ := Ext.a ((by rw [hg]; exact Nat.ne_of_lt (blk_lt BK228.out) : gb228 ≠ gb248)); have n10_ := Ext.a ((by rw [hg]; exact Nat.ne_of_gt (blk_lt BK228.out) : gb248 ≠ gb228)); have n11_ := Ext.a ((by rw [hg]; exact Nat.ne_of_lt (blk_lt BK229.out) : gb229 ≠ gb248)); have n12_ := Ext.a ((by rw [hg]; exact Nat.ne_of_gt (blk_lt BK229.out) : gb248 ≠ gb229)); clear HO_7 HO_9 HO_10 BK228 BK229 HB; have HO_7 := n0_; have HO_9 := n1_; have HO_10 := n2_; have BK228 := n3_; have BK229 := n4_; have HB := n5_; have BK248 := n6_; have GW248 := n7_; have GE248 := n8_; have NB228_248 := n9_; have NB248_228 := n10_; have NB229_248 := n11_; have NB248_229 := n12_; clear n0_ n1_ n2_ n3_ n4_ n5_ n6_ n7_ n8_ n9_ n10_ n11_ n12_; clear hb hbox hg; have hnb93 := NB248_228.out; have hnc93 := NB228_248.out; have hnb94 := NB248_229.out; have hnc94 := NB229_248.out; obtain ⟨hcz95_0, hcz95_1, hcz95_2, hcz95_3⟩ := Ext.cells4 BK248.out; obtain ⟨hfz95_0, hfz95_1, hfz95_2, hfz95_3⟩ := Ext.froz4 BK248.out))
       go_ret
       exact ⟨by first | rfl | (simp [errW_none, errW_some] <;> rfl) | (simp [*, errW_none, errW_some] <;> rfl), by repeat (first | (with_reducible first | exact HB.out | apply Ext.ba | apply Ext.bn | apply Ext.bd | refine Ext.bs ?_ GE228.out | refine Ext.bs ?_ GE229.out | refine Ext.bs ?_ GE248.out) | exact HB.out | exact .refl _ _)⟩
   · rw [if_neg c8] at H; exact absurd H (by simp)
  ·
   rw [if_neg c7] at H
   have c7b0 : (t234 == 0) = false := beq_eq_false_iff_ne.mpr c7
   have c7b1 : (t234 != 0) = true := bne_iff_ne.mpr c7
   replace H := Option.bind_eq_some_iff.mp H
   obtain ⟨t239, A960, H⟩ := H
   replace H : (some (!t239)) = some r := H
   have A96 := Aside0.mk A960
   clear A960
   obtain rfl := Option.some.inj H
   go_enter Try.func8, Try.ntmps8
   go_wp2_with (first | ((with_reducible refine gate_dst (N := 2) rfl ?_); refine box_event ?hg (N := 2) ?hd (cs := #[.int .u64 a0_0, .int .i64 a0_1, .int .i64 a0_2, .int .i64 a0_3]) (t := 24) ?hr ?_; (case hd => rfl); (case hg => rfl); (case hr => first | (go_simp; done) | (go_simp; rfl)); intro gb228 hg w97 hbox hb; have n0_ := Ext.a (below_step (Ext.nB HB.out) hb); have n1_ := Ext.a (hbox); have n2_ := Ext.a ((by rw [hg]; exact (below_size (Ext.nB HB.out)) : w.heap.size ≤ gb228)); have n3_ := Ext.a ((by rw [hg]; exact (below_size (Ext.nB HB.out)) : w.heap.size ≤ gb228)); clear HB; have HB := n0_; have BK228 := n1_; have GW228 := n2_; have GE228 := n3_; clear n0_ n1_ n2_ n3_; clear hb hbox hg) | ((with_reducible refine gate_dst (N := 3) rfl ?_); refine box_event ?hg (N := 3) ?hd (cs := #[.int .u64 a1_0, .int .i64 a1_1, .int .i64 a1_2, .int .i64 a1_3]) (t := 24) ?hr ?_; (case hd => rfl); (case hg => rfl); (case hr => first | (go_simp; done) | (go_simp; rfl)); intro gb229 hg w98 hbox hb; have n0_ := Ext.a (blk_below BK228.out hb); have n1_ := Ext.a (below_step (by repeat (first | (with_reducible first | exact HB.out | apply Ext.ba | apply Ext.bn | apply Ext.bd | refine Ext.bs ?_ GE228.out) | exact HB.out | exact .refl _ _)) hb); have n2_ := Ext.a (hbox); have n3_ := Ext.a ((by rw [hg]; exact (below_size (by repeat (first | (with_reducible first | exact HB.out | apply Ext.ba | apply Ext.bn | apply Ext.bd | refine Ext.bs ?_ GE228.out) | exact HB.out | exact .refl _ _))) : w.heap.size ≤ gb229)); have n4_ := Ext.a ((by rw [hg]; exact (below_size (by repeat (first | (with_reducible first | exact HB.out | apply Ext.ba | apply Ext.bn | apply Ext.bd | refine Ext.bs ?_ GE228.out) | exact HB.out | exact .refl _ _))) : w.heap.size ≤ gb229)); have n5_ := Ext.a ((by rw [hg]; exact Nat.ne_of_lt (blk_lt BK228.out) : gb228 ≠ gb229)); have n6_ := Ext.a ((by rw [hg]; exact Nat.ne_of_gt (blk_lt BK228.out) : gb229 ≠ gb228)); clear BK228 HB; have BK228 := n0_; have HB := n1_; have BK229 := n2_; have GW229 := n3_; have GE229 := n4_; have NB228_229 := n5_; have NB229_228 := n6_; clear n0_ n1_ n2_ n3_ n4_ n5_ n6_; clear hb hbox hg) | ((with_reducible refine gate_callee (f := 9) rfl ?_); refine goesL_ (some 15) rfl rfl Try.func9 (by kernel_rfl) rfl #[] rfl (by (try simp only [List.map_toArray, List.map_cons, List.map_nil]); first | done | rfl | (simp only [List.length_drop, List.length_take]; rfl)) ?_; (with_reducible refine (terrierlaw05_lives.calls k  true _ A3.out).mono ?_); rintro e w99 ⟨rfl, hb⟩; refine ⟨_, rfl, ?_⟩; have n0_ := Ext.a (blk_below BK228.out hb); have n1_ := Ext.a (blk_below BK229.out hb); have n2_ := Ext.a (below_step (by repeat (first | (with_reducible first | exact HB.out | apply Ext.ba | apply Ext.bn | apply Ext.bd | refine Ext.bs ?_ GE228.out | refine Ext.bs ?_ GE229.out) | exact HB.out | exact .refl _ _)) hb); clear BK228 BK229 HB; have BK228 := n0_; have BK229 := n1_; have HB := n2_; clear n0_ n1_ n2_; (try clear hb); (try clear hb2); (try clear hk); (try clear hi); have hnb100 := NB228_229.out; have hnc100 := NB229_228.out; obtain ⟨hcz101_0, hcz101_1, hcz101_2, hcz101_3⟩ := Ext.cells4 BK228.out; obtain ⟨hfz101_0, hfz101_1, hfz101_2, hfz101_3⟩ := Ext.froz4 BK228.out) | ((with_reducible refine gate_callee (f := 10) rfl ?_); refine goesL_ (some 19) rfl rfl Try.func10 (by kernel_rfl) rfl #[.agg #[.int .u64 a0_0, .int .i64 a0_1, .int .i64 a0_2, .int .i64 a0_3]] rfl (by (try simp only [List.map_toArray, List.map_cons, List.map_nil]); first | done | rfl | (simp only [List.length_drop, List.length_take]; rfl)) ?_; (with_reducible refine (meta_Encode.calls k a0_0 a0_1 a0_2 a0_3 t231 t234 _ A5.out).mono ?_); rintro e w102 ⟨v232, rfl, ho0, hb⟩; refine ⟨_, rfl, ?_⟩; have n0_ := Ext.a (Kd.R_lower ho0 (below_size (by repeat (first | (with_reducible first | exact HB.out | apply Ext.ba | apply Ext.bn | apply Ext.bd | refine Ext.bs ?_ GE228.out | refine Ext.bs ?_ GE229.out) | exact HB.out | exact .refl _ _)))); have n1_ := Ext.a (blk_below BK228.out hb); have n2_ := Ext.a (blk_below BK229.out hb); have n3_ := Ext.a (below_step (by repeat (first | (with_reducible first | exact HB.out | apply Ext.ba | apply Ext.bn | apply Ext.bd | refine Ext.bs ?_ GE228.out | refine Ext.bs ?_ GE229.out) | exact HB.out | exact .refl _ _)) hb); clear BK228 BK229 HB; have HO233 := n0_; have BK228 := n1_; have BK229 := n2_; have HB := n3_; clear n0_ n1_ n2_ n3_; (try clear hb); (try clear hb2); (try clear hk); (try clear hi); (try clear ho0); obtain ⟨hcz103_0, hcz103_1, hcz103_2, hcz103_3⟩ := Ext.cells4 BK229.out; obtain ⟨hfz103_0, hfz103_1, hfz103_2, hfz103_3⟩ := Ext.froz4 BK229.out) | ((with_reducible refine gate_callee (f := 10) rfl ?_); refine goesL_ (some 24) rfl rfl Try.func10 (by kernel_rfl) rfl #[.agg #[.int .u64 a1_0, .int .i64 a1_1, .int .i64 a1_2, .int .i64 a1_3]] rfl (by (try simp only [List.map_toArray, List.map_cons, List.map_nil]); first | done | rfl | (simp only [List.length_drop, List.length_take]; rfl)) ?_; (with_reducible refine (meta_Encode.calls k a1_0 a1_1 a1_2 a1_3 t235 t238 _ A6.out).mono ?_); rintro e w104 ⟨v236, rfl, ho0, hb⟩; refine ⟨_, rfl, ?_⟩; have n0_ := Ext.a (Kd.R_elder' (Ext.nR HO233.out) (Kd.R_base ho0) hb); have n1_ := Ext.a (Kd.R_lower (Kd.R_new' ho0 (Kd.R_lt (Ext.nR HO233.out))) (below_size (by repeat (first | (with_reducible first | exact HB.out | apply Ext.ba | apply Ext.bn | apply Ext.bd | refine Ext.bs ?_ GE228.out | refine Ext.bs ?_ GE229.out) | exact HB.out | exact .refl _ _)))); have n2_ := Ext.a (blk_below BK228.out hb); have n3_ := Ext.a (blk_below BK229.out hb); have n4_ := Ext.a (below_step (by repeat (first | (with_reducible first | exact HB.out | apply Ext.ba | apply Ext.bn | apply Ext.bd | refine Ext.bs ?_ GE228.out | refine Ext.bs ?_ GE229.out) | exact HB.out | exact .refl _ _)) hb); clear HO233 BK228 BK229 HB; have HO233 := n0_; have HO237 := n1_; have BK228 := n2_; have BK229 := n3_; have HB := n4_; clear n0_ n1_ n2_ n3_ n4_; (try clear hb); (try clear hb2); (try clear hk); (try clear hi); (try clear ho0); obtain ⟨hcz105_0, hcz105_1, hcz105_2, hcz105_3⟩ := Ext.cells4 BK228.out; obtain ⟨hfz105_0, hfz105_1, hfz105_2, hfz105_3⟩ := Ext.froz4 BK228.out) | ((with_reducible refine gate_callee (f := 13) rfl ?_); refine goesL_ (some 30) rfl rfl Try.func13 (by kernel_rfl) rfl #[.agg #[.int .u64 a0_0, .int .i64 a0_1, .int .i64 a0_2, .int .i64 a0_3]] rfl (by (try simp only [List.map_toArray, List.map_cons, List.map_nil]); first | done | rfl | (simp only [List.length_drop, List.length_take]; rfl)) ?_; (with_reducible refine (meta_Right.calls k a0_0 a0_1 a0_2 a0_3 t239 _ A96.out).mono ?_); rintro e w106 ⟨rfl, hb⟩; refine ⟨_, rfl, ?_⟩; have n0_ := Ext.a (Kd.R_below (Ext.nR HO233.out) hb); have n1_ := Ext.a (Kd.R_below (Ext.nR HO237.out) hb); have n2_ := Ext.a (blk_below BK228.out hb); have n3_ := Ext.a (blk_below BK229.out hb); have n4_ := Ext.a (below_step (by repeat (first | (with_reducible first | exact HB.out | apply Ext.ba | apply Ext.bn | apply Ext.bd | refine Ext.bs ?_ GE228.out | refine Ext.bs ?_ GE229.out) | exact HB.out | exact .refl _ _)) hb); clear HO233 HO237 BK228 BK229 HB; have HO233 := n0_; have HO237 := n1_; have BK228 := n2_; have BK229 := n3_; have HB := n4_; clear n0_ n1_ n2_ n3_ n4_; (try clear hb); (try clear hb2); (try clear hk); (try clear hi)))
   go_ret
   exact ⟨by first | rfl | (simp [errW_none, errW_some] <;> rfl) | (simp [*, errW_none, errW_some] <;> rfl), by repeat (first | (with_reducible first | exact HB.out | apply Ext.ba | apply Ext.bn | apply Ext.bd | refine Ext.bs ?_ GE228.out | refine Ext.bs ?_ GE229.out) | exact HB.out | exact .refl _ _)⟩
 ·
  replace c4 := Bool.eq_false_iff.mpr c4
  subst c4
  have H1 : (some false) = some r := by rw [if_neg (show ¬ (false = true) by decide)] at H; exact H
  clear H
  have H := H1
  clear H1
  obtain rfl := Option.some.inj H
  go_enter Try.func8, Try.ntmps8
  go_wp2_with (first | ((with_reducible refine gate_dst (N := 2) rfl ?_); refine box_event ?hg (N := 2) ?hd (cs := #[.int .u64 a0_0, .int .i64 a0_1, .int .i64 a0_2, .int .i64 a0_3]) (t := 24) ?hr ?_; (case hd => rfl); (case hg => rfl); (case hr => first | (go_simp; done) | (go_simp; rfl)); intro gb228 hg w107 hbox hb; have n0_ := Ext.a (below_step (Ext.nB HB.out) hb); have n1_ := Ext.a (hbox); have n2_ := Ext.a ((by rw [hg]; exact (below_size (Ext.nB HB.out)) : w.heap.size ≤ gb228)); have n3_ := Ext.a ((by rw [hg]; exact (below_size (Ext.nB HB.out)) : w.heap.size ≤ gb228)); clear HB; have HB := n0_; have BK228 := n1_; have GW228 := n2_; have GE228 := n3_; clear n0_ n1_ n2_ n3_; clear hb hbox hg) | ((with_reducible refine gate_dst (N := 3) rfl ?_); refine box_event ?hg (N := 3) ?hd (cs := #[.int .u64 a1_0, .int .i64 a1_1, .int .i64 a1_2, .int .i64 a1_3]) (t := 24) ?hr ?_; (case hd => rfl); (case hg => rfl); (case hr => first | (go_simp; done) | (go_simp; rfl)); intro gb229 hg w108 hbox hb; have n0_ := Ext.a (blk_below BK228.out hb); have n1_ := Ext.a (below_step (by repeat (first | (with_reducible first | exact HB.out | apply Ext.ba | apply Ext.bn | apply Ext.bd | refine Ext.bs ?_ GE228.out) | exact HB.out | exact .refl _ _)) hb); have n2_ := Ext.a (hbox); have n3_ := Ext.a ((by rw [hg]; exact (below_size (by repeat (first | (with_reducible first | exact HB.out | apply Ext.ba | apply Ext.bn | apply Ext.bd | refine Ext.bs ?_ GE228.out) | exact HB.out | exact .refl _ _))) : w.heap.size ≤ gb229)); have n4_ := Ext.a ((by rw [hg]; exact (below_size (by repeat (first | (with_reducible first | exact HB.out | apply Ext.ba | apply Ext.bn | apply Ext.bd | refine Ext.bs ?_ GE228.out) | exact HB.out | exact .refl _ _))) : w.heap.size ≤ gb229)); have n5_ := Ext.a ((by rw [hg]; exact Nat.ne_of_lt (blk_lt BK228.out) : gb228 ≠ gb229)); have n6_ := Ext.a ((by rw [hg]; exact Nat.ne_of_gt (blk_lt BK228.out) : gb229 ≠ gb228)); clear BK228 HB; have BK228 := n0_; have HB := n1_; have BK229 := n2_; have GW229 := n3_; have GE229 := n4_; have NB228_229 := n5_; have NB229_228 := n6_; clear n0_ n1_ n2_ n3_ n4_ n5_ n6_; clear hb hbox hg) | ((with_reducible refine gate_callee (f := 9) rfl ?_); refine goesL_ (some 15) rfl rfl Try.func9 (by kernel_rfl) rfl #[] rfl (by (try simp only [List.map_toArray, List.map_cons, List.map_nil]); first | done | rfl | (simp only [List.length_drop, List.length_take]; rfl)) ?_; (with_reducible refine (terrierlaw05_lives.calls k  false _ A3.out).mono ?_); rintro e w109 ⟨rfl, hb⟩; refine ⟨_, rfl, ?_⟩; have n0_ := Ext.a (blk_below BK228.out hb); have n1_ := Ext.a (blk_below BK229.out hb); have n2_ := Ext.a (below_step (by repeat (first | (with_reducible first | exact HB.out | apply Ext.ba | apply Ext.bn | apply Ext.bd | refine Ext.bs ?_ GE228.out | refine Ext.bs ?_ GE229.out) | exact HB.out | exact .refl _ _)) hb); clear BK228 BK229 HB; have BK228 := n0_; have BK229 := n1_; have HB := n2_; clear n0_ n1_ n2_; (try clear hb); (try clear hb2); (try clear hk); (try clear hi)))
  go_ret
  exact ⟨by first | rfl | (simp [errW_none, errW_some] <;> rfl) | (simp [*, errW_none, errW_some] <;> rfl), by repeat (first | (with_reducible first | exact HB.out | apply Ext.ba | apply Ext.bn | apply Ext.bd | refine Ext.bs ?_ GE228.out | refine Ext.bs ?_ GE229.out) | exact HB.out | exact .refl _ _)⟩

/-- THE ONE PURE STATEMENT of terrierlaw05_MetaPlaces: yours. -/
def terrierlaw05_MetaPlaces.Pure : Prop := ∀ (a0_0 : Int) (a0_1 : Int) (a0_2 : Int) (a0_3 : Int) (a1_0 : Int) (a1_1 : Int) (a1_2 : Int) (a1_3 : Int), (ok24 (⟨a0_0, a0_1, a0_2, a0_3⟩ : S24)) → (ok24 (⟨a1_0, a1_1, a1_2, a1_3⟩ : S24)) → ∃ k, terrierlaw05_MetaPlaces.f k a0_0 a0_1 a0_2 a0_3 a1_0 a1_1 a1_2 a1_3 = some true
theorem terrierlaw05_MetaPlaces.walk (P : terrierlaw05_MetaPlaces.Pure) (a0_0 : Int) (a0_1 : Int) (a0_2 : Int) (a0_3 : Int) (a1_0 : Int) (a1_1 : Int) (a1_2 : Int) (a1_3 : Int) (w : World) (hk0 : ok24 (⟨a0_0, a0_1, a0_2, a0_3⟩ : S24)) (hk1 : ok24 (⟨a1_0, a1_1, a1_2, a1_3⟩ : S24)) :
  Calls Try.prog 8 #[.agg #[.int .u64 a0_0, .int .i64 a0_1, .int .i64 a0_2, .int .i64 a0_3], .agg #[.int .u64 a1_0, .int .i64 a1_1, .int .i64 a1_2, .int .i64 a1_3]] w fun e w' => e = .returned (.bool true) ∧ Below w.heap.size w w' := by
 obtain ⟨k, h⟩ := P a0_0 a0_1 a0_2 a0_3 a1_0 a1_1 a1_2 a1_3 hk0 hk1
 refine (terrierlaw05_MetaPlaces.calls k a0_0 a0_1 a0_2 a0_3 a1_0 a1_1 a1_2 a1_3 true w  h).mono ?_
 rintro e w' ⟨rfl, hd⟩
 exact ⟨rfl, hd⟩

end Go.Proofs.Ytfkihcdonddcoaa.PL
