-- Written by wip/printx.py, a program of this work over the kit's print, for this claim.
import Derived.Test.YtlhjdmpclfhoeaaPCx0
import Derived.Test.YtlhjdmpclfhoeaaPCx10
import Derived.Test.YtlhjdmpclfhoeaaPCx11
import Derived.Test.YtlhjdmpclfhoeaaPCx12
namespace Go.Proofs.Ytlhjdmpclfhoeaa.PC
open Go.RowKit Go.Proofs.YtlhjdmpclfhoeaaW.PrintWords Go.Proofs.YtlhjdmpclfhoeaaW.PrintLast Go.Proofs.YtlhjdmpclfhoeaaW.PrintMore
attribute [local go_sem] max2_int min2_int max_two min_two max_three min_three max_four min_four   -- for this text's walks alone
attribute [local go_sem] Ext.pick_u8 Ext.pick_u32 Ext.pick_u64
set_option linter.unusedVariables false
set_option linter.unusedSimpArgs false



/-! ### terrierref20_out_told: function 28 -/
def terrierref20_out_told.j0 : Nat → Bool → List Int → Bool → Int → List (S79) → Int → Bool → List (S79) → Int → Option (List Int × Bool)
 | 0, _, _, _, _, _, _, _, _, _ => none
 | k + 1, x4, x1000, x1001, x353000, x353001, x353002, x353003, x353004, x353005 => if x353000 = 1 then ((terrierref20_out_kvs.f k x1000 x1001 x353001).bind fun bt355 => ((terrierref20_out_num.f k bt355.1 bt355.2 x353002).bind fun bt357 => ((terrierref20_out_flag.f bt357.1 bt357.2 x353003).bind fun bt359 => (if bt359.2 = true then (some (bt359.1, true)) else (if (x353004.length : Int) > 0 then (some (bt359.1, true)) else (some (bt359.1, (x353005 != 0)))))))) else (if x353000 = 2 then ((terrierref20_out_kvs.f k x1000 x1001 x353004).bind fun bt361 => (if bt361.2 = true then (some (bt361.1, true)) else (if x4 = true then (some (bt361.1, true)) else (some (bt361.1, (x353005 != 0)))))) else (if x353000 = 3 then ((terrierref20_out_num.f k x1000 x1001 x353005).bind fun bt363 => ((terrierref20_out_kvs.f k bt363.1 bt363.2 x353004).bind fun bt365 => (if bt365.2 = true then (some (bt365.1, true)) else (some (bt365.1, x4))))) else (some (x1000, true))))
def terrierref20_out_told.f (k : Nat) (s0_0 : List Int) (s0_1 : Bool) (a1_0 : Int) (l1_1 : List (S79)) (a1_2 : Int) (a1_3 : Bool) (l1_4 : List (S79)) (a1_5 : Int) : Option (List Int × Bool) := (terrierref20_out_small.f s0_0 s0_1 a1_0).bind fun bt353 => (if (l1_1.length : Int) > 0 then (terrierref20_out_told.j0 k true bt353.1 bt353.2 a1_0 l1_1 a1_2 a1_3 l1_4 a1_5) else (if a1_2 = 0 then (terrierref20_out_told.j0 k a1_3 bt353.1 bt353.2 a1_0 l1_1 a1_2 a1_3 l1_4 a1_5) else (terrierref20_out_told.j0 k true bt353.1 bt353.2 a1_0 l1_1 a1_2 a1_3 l1_4 a1_5)))
theorem terrierref20_out_told.mono_l : ∀ k, (∀ y0 y1 y2 y3 y4 y5 y6 y7 y8, LeO (terrierref20_out_told.j0 k y0 y1 y2 y3 y4 y5 y6 y7 y8) (terrierref20_out_told.j0 (k + 1) y0 y1 y2 y3 y4 y5 y6 y7 y8))
 | 0 => fun _ _ _ _ _ _ _ _ _ r h => by simp [terrierref20_out_told.j0] at h
 | k + 1 => by
  have ih0 := terrierref20_out_told.mono_l k
  ·
   intro y0 y1 y2 y3 y4 y5 y6 y7 y8
   unfold terrierref20_out_told.j0
   repeat' first
   | (with_reducible exact ih0 _ _ _ _ _ _ _ _ _)
   | (with_reducible exact terrierref20_out_kvs.mono _ _ _ _)
   | (with_reducible exact terrierref20_out_num.mono _ _ _ _)
   | (with_reducible exact LeO.refl _)
   | (with_reducible exact LeO.none _)
   | (with_reducible refine LeO.ite ?_ ?_)
   | (with_reducible refine LeO.bind ?_ (fun _ => ?_))
   | exact ih0 _ _ _ _ _ _ _ _ _
   | exact terrierref20_out_kvs.mono _ _ _ _
   | exact terrierref20_out_num.mono _ _ _ _
   | exact LeO.none _
   | refine LeO.ite ?_ ?_
   | refine LeO.bind ?_ (fun _ => ?_)
theorem terrierref20_out_told.mono : ∀ a0 a1 a2 a3 a4 a5 a6 a7 k, LeO (terrierref20_out_told.f k a0 a1 a2 a3 a4 a5 a6 a7) (terrierref20_out_told.f (k + 1) a0 a1 a2 a3 a4 a5 a6 a7) := by
 intro a0 a1 a2 a3 a4 a5 a6 a7 k
 have ih0 := terrierref20_out_told.mono_l k; unfold terrierref20_out_told.f
 repeat' first
   | (with_reducible exact ih0 _ _ _ _ _ _ _ _ _)
   | (with_reducible exact terrierref20_out_kvs.mono _ _ _ _)
   | (with_reducible exact terrierref20_out_num.mono _ _ _ _)
   | (with_reducible exact LeO.refl _)
   | (with_reducible exact LeO.none _)
   | (with_reducible refine LeO.ite ?_ ?_)
   | (with_reducible refine LeO.bind ?_ (fun _ => ?_))
   | exact ih0 _ _ _ _ _ _ _ _ _
   | exact terrierref20_out_kvs.mono _ _ _ _
   | exact terrierref20_out_num.mono _ _ _ _
   | exact LeO.none _
   | refine LeO.ite ?_ ?_
   | refine LeO.bind ?_ (fun _ => ?_)
set_option maxHeartbeats 8000000 in
set_option maxRecDepth 100000 in
theorem terrierref20_out_told.calls (k : Nat) (g : Nat) (s0_0 : List Int) (s0_1 : Bool) (a1_0 : Int) (A1_1 : Option Addr) (c1_1 : Nat) (l1_1 : List (S79)) (a1_2 : Int) (a1_3 : Bool) (A1_4 : Option Addr) (c1_4 : Nat) (l1_4 : List (S79)) (a1_5 : Int) (r1 : List Int) (r2 : Bool) (w wS : World) (hI : IsS66 w wS wS g s0_0 s0_1) (hB : Below w.heap.size w wS) (hr1_1 : Kd.C k79 w A1_1 l1_1.length l1_1) (hc1_1 : l1_1.length ≤ c1_1) (hr1_4 : Kd.C k79 w A1_4 l1_4.length l1_4) (hc1_4 : l1_4.length ≤ c1_4) (h : terrierref20_out_told.f k s0_0 s0_1 a1_0 l1_1 a1_2 a1_3 l1_4 a1_5 = some (r1, r2)) :
  Calls Try.prog 28 #[.pointer (some ⟨g, 0, none⟩), .agg #[.int .i64 a1_0, .slice A1_1 l1_1.length c1_1, .int .i64 a1_2, .bool a1_3, .slice A1_4 l1_4.length c1_4, .int .i64 a1_5]] wS fun e w' => e = .returned (.tuple #[]) ∧ IsS66 w wS w' g r1 r2 ∧ Below w.heap.size w w' := by
 have hu27 := Try.underlying27; have HR1_1 := Aside0.mk hr1_1; have HC1_1 := Aside0.mk hc1_1; clear hr1_1 hc1_1; have HR1_4 := Aside0.mk hr1_4; have HC1_4 := Aside0.mk hc1_4; clear hr1_4 hc1_4; have HI0 := Aside0.mk hI; have HB := Aside0.mk hB; clear hI hB; have H := h; unfold terrierref20_out_told.f at H; clear h; replace H := Option.bind_eq_some_iff.mp H; obtain ⟨⟨t353, t354⟩, A30, H⟩ := H; (try dsimp only at H); have A3 := Aside0.mk A30; clear A30; have HC4 := Aside0.mk H; clear H
 go_enter Try.func28, Try.ntmps28
 go_upto_region 2 with (first | ((with_reducible refine gate_dst (N := 3) rfl ?_); (try (refine gate_guard (by rfl) ?_; dsimp only)); refine box_event ?hg (N := 3) ?hd (cs := #[.int .i64 a1_0, .slice A1_1 l1_1.length c1_1, .int .i64 a1_2, .bool a1_3, .slice A1_4 l1_4.length c1_4, .int .i64 a1_5]) (t := 27) ?hr ?_; (case hd => rfl); (case hg => rfl); (case hr => first | (go_simp; done) | (go_simp; rfl)); intro gb352 hg w5 hbox hb; have BK352 := Ext.a (hbox); have GW352 := Ext.gw hg (below_size (Ext.s1 (IsS66.ge HI0.out) HB.out)); have GE352 := Ext.gw hg (below_size (Ext.s1 (IsS66.ge HI0.out) HB.out)); replace HB := Ext.a (below_step (Ext.s1 (IsS66.ge HI0.out) HB.out) hb); have GS352 := Ext.gw hg (show IsS66 w wS _ g s0_0 s0_1 from by exact IsS66.go HI0.out).2.1; have NB0_352 := Ext.nt hg (IsS66.lt (IsS66.go HI0.out)); have NB352_0 := Ext.ng hg (IsS66.lt (IsS66.go HI0.out)); replace HI0 := Ext.a (IsS66.below (IsS66.go HI0.out) hb); clear hb hbox hg; have hnb6 := NB352_0.out; have hnc6 := NB0_352.out; obtain ⟨hcz7_0, hcz7_1, hcz7_2, hcz7_3, hcz7_4, hcz7_5⟩ := Ext.cells6 BK352.out; obtain ⟨hfz7_0, hfz7_1, hfz7_2, hfz7_3, hfz7_4, hfz7_5⟩ := Ext.froz6 BK352.out) | ((with_reducible refine gate_callee (f := 24) rfl ?_); refine Ext.gs (some 8) rfl rfl Try.func24 #[.pointer (some ⟨g, 0, none⟩), .int .i64 a1_0] rfl ?_; (with_reducible refine (terrierref20_out_small.calls g s0_0 s0_1 a1_0 t353 t354 w _ ?side1 ?side2 A3.out).mono ?_); (case side1 => refine IsS66.now (wF := wS) ?_; exact IsS66.go HI0.out); (case side2 => exact Ext.s2 GE352.out (IsS66.ge HI0.out) HB.out); rintro e w8 ⟨rfl, hi, hb⟩; refine ⟨_, rfl, ?_⟩; replace HB := Ext.a (hb); replace HI0 := Ext.a (IsS66.then (by exact IsS66.go HI0.out) hi); replace BK352 := Ext.a (IsS66.blk hi (by exact BK352.out) NB352_0.out (by decide)); (try clear hb hi)))
 (try simp only [Act.put, Ext.sb, Ext.sz, Ext.ss])
 go_cut [4] (fun v4 wc => ∃ (kq : Nat) (x4_3 : Bool), v4 = .bool x4_3 ∧ Aside0 (terrierref20_out_told.j0 kq x4_3 t353 t354 a1_0 l1_1 a1_2 a1_3 l1_4 a1_5 = some (r1, r2)) ∧ Aside0 (kq ≤ k) ∧ Aside0 (wc.heap[gb352]? = some (.cells #[.int .i64 a1_0, (.slice A1_1 l1_1.length c1_1), .int .i64 a1_2, .bool a1_3, (.slice A1_4 l1_4.length c1_4), .int .i64 a1_5] 27 (0, 0))) ∧ Aside0 (IsS66 w wS wc g t353 t354) ∧ Aside0 (Below w.heap.size w wc))
 case first =>
  have H := HC4.out; clear HC4
  by_cases c9 : (l1_1.length : Int) > 0
  ·
   rw [if_pos c9] at H; have c9b0 := decide_eq_true c9; have c9b1 : decide (0 < l1_1.length) = true := decide_eq_true (by omega); clear c9
   (first | rw [c9b0] | (simp only [i64_w, i32_w]; rw [c9b0]) | skip)
   have H' := Aside0.mk H; clear H; have hnb10 := NB352_0.out; have hnc10 := NB0_352.out; obtain ⟨hcz11_0, hcz11_1, hcz11_2, hcz11_3, hcz11_4, hcz11_5⟩ := Ext.cells6 BK352.out; obtain ⟨hfz11_0, hfz11_1, hfz11_2, hfz11_3, hfz11_4, hfz11_5⟩ := Ext.froz6 BK352.out
   go_wp2
   go_meet
   case rel => exact ⟨_, (true), (by first | rfl | (simp; done) | (simp [*]; done)), H', ⟨by first | omega | exact Nat.le_refl _⟩, ⟨by exact BK352.out⟩, ⟨by exact IsS66.go HI0.out⟩, ⟨by exact Ext.s2 GE352.out (IsS66.ge HI0.out) HB.out⟩⟩
  ·
   rw [if_neg c9] at H; have c9b0 := decide_eq_false c9; have c9b1 : decide (0 < l1_1.length) = false := decide_eq_false (by omega); clear c9
   (first | rw [c9b0] | (simp only [i64_w, i32_w]; rw [c9b0]) | skip)
   by_cases c12 : a1_2 = 0
   ·
    rw [if_pos c12] at H; obtain ⟨c12b0, c12b1⟩ := Ext.eT c12; clear c12; have H' := Aside0.mk H; clear H; have hnb13 := NB352_0.out; have hnc13 := NB0_352.out; obtain ⟨hcz14_0, hcz14_1, hcz14_2, hcz14_3, hcz14_4, hcz14_5⟩ := Ext.cells6 BK352.out; obtain ⟨hfz14_0, hfz14_1, hfz14_2, hfz14_3, hfz14_4, hfz14_5⟩ := Ext.froz6 BK352.out
    go_wp2
    go_meet
    case rel => exact ⟨_, (a1_3), (by first | rfl | (simp; done) | (simp [*]; done)), H', ⟨by first | omega | exact Nat.le_refl _⟩, ⟨by exact BK352.out⟩, ⟨by exact IsS66.go HI0.out⟩, ⟨by exact Ext.s2 GE352.out (IsS66.ge HI0.out) HB.out⟩⟩
   ·
    rw [if_neg c12] at H; obtain ⟨c12b0, c12b1⟩ := Ext.eF c12; have H' := Aside0.mk H; clear H; have hnb15 := NB352_0.out; have hnc15 := NB0_352.out; obtain ⟨hcz16_0, hcz16_1, hcz16_2, hcz16_3, hcz16_4, hcz16_5⟩ := Ext.cells6 BK352.out; obtain ⟨hfz16_0, hfz16_1, hfz16_2, hfz16_3, hfz16_4, hfz16_5⟩ := Ext.froz6 BK352.out
    go_wp2
    go_meet
    case rel => exact ⟨_, (true), (by first | rfl | (simp; done) | (simp [*]; done)), H', ⟨by first | omega | exact Nat.le_refl _⟩, ⟨by exact BK352.out⟩, ⟨by exact IsS66.go HI0.out⟩, ⟨by exact Ext.s2 GE352.out (IsS66.ge HI0.out) HB.out⟩⟩
 case rest =>
  clear HC4; (try clear c1 c2 p2 c6 c9b0 c9b1 c10 c12b0 c12b1 c13 c15 hcz11_0 hcz11_1 hcz11_2 hcz11_3 hcz11_4 hcz11_5 hcz14_0 hcz14_1 hcz14_2 hcz14_3 hcz14_4 hcz14_5 hcz16_0 hcz16_1 hcz16_2 hcz16_3 hcz16_4 hcz16_5 hcz7_0 hcz7_1 hcz7_2 hcz7_3 hcz7_4 hcz7_5 hfz11_0 hfz11_1 hfz11_2 hfz11_3 hfz11_4 hfz11_5 hfz14_0 hfz14_1 hfz14_2 hfz14_3 hfz14_4 hfz14_5 hfz16_0 hfz16_1 hfz16_2 hfz16_3 hfz16_4 hfz16_5 hfz7_0 hfz7_1 hfz7_2 hfz7_3 hfz7_4 hfz7_5); obtain ⟨kq, x4_3, rfl, HA, HJ3, BK352, HI0, HB⟩ := hcut; cases kq with
  | zero => exact absurd HA.out (by simp [terrierref20_out_told.j0])
  | succ kj3 =>
   have H := HA.out; clear HA; simp only [terrierref20_out_told.j0] at H
   by_cases c17 : a1_0 = 1
   ·
    rw [if_pos c17] at H; obtain ⟨c17b0, c17b1⟩ := Ext.eT c17; clear c17; replace H := Option.bind_eq_some_iff.mp H; obtain ⟨⟨t355, t356⟩, A180, H⟩ := H; (try dsimp only at H); have A18 := Aside0.mk A180; clear A180; replace H := Option.bind_eq_some_iff.mp H; obtain ⟨⟨t357, t358⟩, A190, H⟩ := H; (try dsimp only at H); have A19 := Aside0.mk A190; clear A190; replace H := Option.bind_eq_some_iff.mp H; obtain ⟨⟨t359, t360⟩, A200, H⟩ := H; (try dsimp only at H); have A20 := Aside0.mk A200; clear A200
    by_cases c21 : t360 = true
    ·
     subst c21; rw [if_pos rfl] at H; simp only [Option.some.injEq, Prod.mk.injEq] at H; obtain ⟨rfl, rfl⟩ := H; have hnb22 := NB352_0.out; have hnc22 := NB0_352.out; obtain ⟨hcz23_0, hcz23_1, hcz23_2, hcz23_3, hcz23_4, hcz23_5⟩ := Ext.cells6 BK352.out; obtain ⟨hfz23_0, hfz23_1, hfz23_2, hfz23_3, hfz23_4, hfz23_5⟩ := Ext.froz6 BK352.out
     go_wp2_with (first | ((with_reducible refine gate_callee (f := 50) rfl ?_); refine Ext.gs (some 36) rfl rfl Try.func50 #[.pointer (some ⟨g, 0, none⟩), .slice A1_1 l1_1.length c1_1] rfl ?_; (with_reducible refine (terrierref20_out_kvs.calls kj3 g t353 t354 _ _ l1_1 t355 t356 w _ ?side1 ?side2 ?side3 ?side4 A18.out).mono ?_); (case side1 => refine IsS66.now (wF := wS) ?_; exact IsS66.go HI0.out); (case side2 => exact Ext.s2 GE352.out (IsS66.ge HI0.out) HB.out); (case side3 => exact HR1_1.out); (case side4 => exact HC1_1.out); rintro e w24 ⟨rfl, hi, hb⟩; refine ⟨_, rfl, ?_⟩; replace HB := Ext.a (hb); replace HI0 := Ext.a (IsS66.then (by exact IsS66.go HI0.out) hi); replace BK352 := Ext.a (IsS66.blk hi (by exact BK352.out) NB352_0.out (by decide)); (try clear hb hi); obtain ⟨hcz25_0, hcz25_1, hcz25_2, hcz25_3, hcz25_4, hcz25_5⟩ := Ext.cells6 BK352.out; obtain ⟨hfz25_0, hfz25_1, hfz25_2, hfz25_3, hfz25_4, hfz25_5⟩ := Ext.froz6 BK352.out) | ((with_reducible refine gate_callee (f := 25) rfl ?_); refine Ext.gs (some 41) rfl rfl Try.func25 #[.pointer (some ⟨g, 0, none⟩), .int .i64 a1_2] rfl ?_; (with_reducible refine (terrierref20_out_num.calls kj3 g t355 t356 a1_2 t357 t358 w _ ?side1 ?side2 A19.out).mono ?_); (case side1 => refine IsS66.now (wF := wS) ?_; exact IsS66.go HI0.out); (case side2 => exact Ext.s2 GE352.out (IsS66.ge HI0.out) HB.out); rintro e w26 ⟨rfl, hi, hb⟩; refine ⟨_, rfl, ?_⟩; replace HB := Ext.a (hb); replace HI0 := Ext.a (IsS66.then (by exact IsS66.go HI0.out) hi); replace BK352 := Ext.a (IsS66.blk hi (by exact BK352.out) NB352_0.out (by decide)); (try clear hb hi); obtain ⟨hcz27_0, hcz27_1, hcz27_2, hcz27_3, hcz27_4, hcz27_5⟩ := Ext.cells6 BK352.out; obtain ⟨hfz27_0, hfz27_1, hfz27_2, hfz27_3, hfz27_4, hfz27_5⟩ := Ext.froz6 BK352.out) | ((with_reducible refine gate_callee (f := 29) rfl ?_); refine Ext.gs (some 46) rfl rfl Try.func29 #[.pointer (some ⟨g, 0, none⟩), .bool a1_3] rfl ?_; (with_reducible refine (terrierref20_out_flag.calls g t357 t358 a1_3 t359 true w _ ?side1 ?side2 A20.out).mono ?_); (case side1 => refine IsS66.now (wF := wS) ?_; exact IsS66.go HI0.out); (case side2 => exact Ext.s2 GE352.out (IsS66.ge HI0.out) HB.out); rintro e w28 ⟨rfl, hi, hb⟩; refine ⟨_, rfl, ?_⟩; replace HB := Ext.a (hb); replace HI0 := Ext.a (IsS66.then (by exact IsS66.go HI0.out) hi); replace BK352 := Ext.a (IsS66.blk hi (by exact BK352.out) NB352_0.out (by decide)); (try clear hb hi); obtain ⟨⟨vbz29, HGz29, hgz29, hoz29⟩, hfz29⟩ := HI0.out; have hcz29_1 := cellS66_1 HGz29; have hfz29_1 := blk_frozen HGz29 1; clear HGz29 hgz29 hoz29 hfz29))
     first | go_end0 | ((try simp only [Exit.inBlock, Exit.then]); refine bodyPost_ret (results_none rfl _ _ _) rfl ?_)
     exact ⟨by first | rfl | (simp [errW_none, errW_some] <;> rfl) | (simp [*, errW_none, errW_some] <;> rfl), by exact IsS66.go HI0.out, by exact Ext.s2 GE352.out (IsS66.ge HI0.out) HB.out⟩
    ·
     replace c21 := Bool.eq_false_iff.mpr c21; subst c21; rw [if_neg Bool.false_ne_true] at H
     by_cases c30 : (l1_4.length : Int) > 0
     case' _ =>
      rw [if_pos c30] at H; have c30b0 := decide_eq_true c30; have c30b1 : decide (0 < l1_4.length) = true := decide_eq_true (by omega); clear c30
     rotate_left 1
     case' _ =>
      rw [if_neg c30] at H; have c30b0 := decide_eq_false c30; have c30b1 : decide (0 < l1_4.length) = false := decide_eq_false (by omega); clear c30
     all_goals (simp only [Option.some.injEq, Prod.mk.injEq] at H; obtain ⟨rfl, rfl⟩ := H; have q0_ := NB352_0.out; have q1_ := NB0_352.out; obtain ⟨q2_, q3_, q4_, q5_, q6_, q7_⟩ := Ext.cells6 BK352.out; obtain ⟨q8_, q9_, q10_, q11_, q12_, q13_⟩ := Ext.froz6 BK352.out; go_wp2_with (first | ((with_reducible refine gate_callee (f := 50) rfl ?_); refine Ext.gs (some 36) rfl rfl Try.func50 #[.pointer (some ⟨g, 0, none⟩), .slice A1_1 l1_1.length c1_1] rfl ?_; (with_reducible refine (terrierref20_out_kvs.calls kj3 g t353 t354 _ _ l1_1 t355 t356 w _ ?side1 ?side2 ?side3 ?side4 A18.out).mono ?_); (case side1 => refine IsS66.now (wF := wS) ?_; exact IsS66.go HI0.out); (case side2 => exact Ext.s2 GE352.out (IsS66.ge HI0.out) HB.out); (case side3 => exact HR1_1.out); (case side4 => exact HC1_1.out); rintro e q14_ ⟨rfl, hi, hb⟩; refine ⟨_, rfl, ?_⟩; replace HB := Ext.a (hb); replace HI0 := Ext.a (IsS66.then (by exact IsS66.go HI0.out) hi); replace BK352 := Ext.a (IsS66.blk hi (by exact BK352.out) NB352_0.out (by decide)); (try clear hb hi); obtain ⟨q15_, q16_, q17_, q18_, q19_, q20_⟩ := Ext.cells6 BK352.out; obtain ⟨q21_, q22_, q23_, q24_, q25_, q26_⟩ := Ext.froz6 BK352.out) | ((with_reducible refine gate_callee (f := 25) rfl ?_); refine Ext.gs (some 41) rfl rfl Try.func25 #[.pointer (some ⟨g, 0, none⟩), .int .i64 a1_2] rfl ?_; (with_reducible refine (terrierref20_out_num.calls kj3 g t355 t356 a1_2 t357 t358 w _ ?side1 ?side2 A19.out).mono ?_); (case side1 => refine IsS66.now (wF := wS) ?_; exact IsS66.go HI0.out); (case side2 => exact Ext.s2 GE352.out (IsS66.ge HI0.out) HB.out); rintro e q27_ ⟨rfl, hi, hb⟩; refine ⟨_, rfl, ?_⟩; replace HB := Ext.a (hb); replace HI0 := Ext.a (IsS66.then (by exact IsS66.go HI0.out) hi); replace BK352 := Ext.a (IsS66.blk hi (by exact BK352.out) NB352_0.out (by decide)); (try clear hb hi); obtain ⟨q28_, q29_, q30_, q31_, q32_, q33_⟩ := Ext.cells6 BK352.out; obtain ⟨q34_, q35_, q36_, q37_, q38_, q39_⟩ := Ext.froz6 BK352.out) | ((with_reducible refine gate_callee (f := 29) rfl ?_); refine Ext.gs (some 46) rfl rfl Try.func29 #[.pointer (some ⟨g, 0, none⟩), .bool a1_3] rfl ?_; (with_reducible refine (terrierref20_out_flag.calls g t357 t358 a1_3 t359 false w _ ?side1 ?side2 A20.out).mono ?_); (case side1 => refine IsS66.now (wF := wS) ?_; exact IsS66.go HI0.out); (case side2 => exact Ext.s2 GE352.out (IsS66.ge HI0.out) HB.out); rintro e q40_ ⟨rfl, hi, hb⟩; refine ⟨_, rfl, ?_⟩; replace HB := Ext.a (hb); replace HI0 := Ext.a (IsS66.then (by exact IsS66.go HI0.out) hi); replace BK352 := Ext.a (IsS66.blk hi (by exact BK352.out) NB352_0.out (by decide)); (try clear hb hi); obtain ⟨⟨q41_, q42_, q43_, q44_⟩, q45_⟩ := HI0.out; have q46_ := cellS66_1 q42_; have q47_ := blk_frozen q42_ 1; clear q42_ q43_ q44_ q45_; obtain ⟨q48_, q49_, q50_, q51_, q52_, q53_⟩ := Ext.cells6 BK352.out; obtain ⟨q54_, q55_, q56_, q57_, q58_, q59_⟩ := Ext.froz6 BK352.out)); (first | go_end0 | ((try simp only [Exit.inBlock, Exit.then]); refine bodyPost_ret (results_none rfl _ _ _) rfl ?_)); exact ⟨by first | rfl | (simp [errW_none, errW_some] <;> rfl) | (simp [*, errW_none, errW_some] <;> rfl), by exact IsS66.go HI0.out, by exact Ext.s2 GE352.out (IsS66.ge HI0.out) HB.out⟩)
   ·
    rw [if_neg c17] at H; obtain ⟨c17b0, c17b1⟩ := Ext.eF c17
    by_cases c49 : a1_0 = 2
    ·
     rw [if_pos c49] at H; obtain ⟨c49b0, c49b1⟩ := Ext.eT c49; clear c49; replace H := Option.bind_eq_some_iff.mp H; obtain ⟨⟨t361, t362⟩, A500, H⟩ := H; (try dsimp only at H); have A50 := Aside0.mk A500; clear A500
     by_cases c51 : t362 = true
     ·
      subst c51; rw [if_pos rfl] at H; simp only [Option.some.injEq, Prod.mk.injEq] at H; obtain ⟨rfl, rfl⟩ := H; have hnb52 := NB352_0.out; have hnc52 := NB0_352.out; obtain ⟨hcz53_0, hcz53_1, hcz53_2, hcz53_3, hcz53_4, hcz53_5⟩ := Ext.cells6 BK352.out; obtain ⟨hfz53_0, hfz53_1, hfz53_2, hfz53_3, hfz53_4, hfz53_5⟩ := Ext.froz6 BK352.out
      go_wp2_with (first | ((with_reducible refine gate_callee (f := 50) rfl ?_); refine Ext.gs (some 70) rfl rfl Try.func50 #[.pointer (some ⟨g, 0, none⟩), .slice A1_4 l1_4.length c1_4] rfl ?_; (with_reducible refine (terrierref20_out_kvs.calls kj3 g t353 t354 _ _ l1_4 t361 true w _ ?side1 ?side2 ?side3 ?side4 A50.out).mono ?_); (case side1 => refine IsS66.now (wF := wS) ?_; exact IsS66.go HI0.out); (case side2 => exact Ext.s2 GE352.out (IsS66.ge HI0.out) HB.out); (case side3 => exact HR1_4.out); (case side4 => exact HC1_4.out); rintro e w54 ⟨rfl, hi, hb⟩; refine ⟨_, rfl, ?_⟩; replace HB := Ext.a (hb); replace HI0 := Ext.a (IsS66.then (by exact IsS66.go HI0.out) hi); replace BK352 := Ext.a (IsS66.blk hi (by exact BK352.out) NB352_0.out (by decide)); (try clear hb hi); obtain ⟨⟨vbz55, HGz55, hgz55, hoz55⟩, hfz55⟩ := HI0.out; have hcz55_1 := cellS66_1 HGz55; have hfz55_1 := blk_frozen HGz55 1; clear HGz55 hgz55 hoz55 hfz55))
      first | go_end0 | ((try simp only [Exit.inBlock, Exit.then]); refine bodyPost_ret (results_none rfl _ _ _) rfl ?_)
      exact ⟨by first | rfl | (simp [errW_none, errW_some] <;> rfl) | (simp [*, errW_none, errW_some] <;> rfl), by exact IsS66.go HI0.out, by exact Ext.s2 GE352.out (IsS66.ge HI0.out) HB.out⟩
     ·
      replace c51 := Bool.eq_false_iff.mpr c51; subst c51; rw [if_neg Bool.false_ne_true] at H
      by_cases c56 : x4_3 = true
      ·
       subst c56; rw [if_pos rfl] at H; simp only [Option.some.injEq, Prod.mk.injEq] at H; obtain ⟨rfl, rfl⟩ := H; have hnb57 := NB352_0.out; have hnc57 := NB0_352.out; obtain ⟨hcz58_0, hcz58_1, hcz58_2, hcz58_3, hcz58_4, hcz58_5⟩ := Ext.cells6 BK352.out; obtain ⟨hfz58_0, hfz58_1, hfz58_2, hfz58_3, hfz58_4, hfz58_5⟩ := Ext.froz6 BK352.out
       go_wp2_with (first | ((with_reducible refine gate_callee (f := 50) rfl ?_); refine Ext.gs (some 70) rfl rfl Try.func50 #[.pointer (some ⟨g, 0, none⟩), .slice A1_4 l1_4.length c1_4] rfl ?_; (with_reducible refine (terrierref20_out_kvs.calls kj3 g t353 t354 _ _ l1_4 t361 false w _ ?side1 ?side2 ?side3 ?side4 A50.out).mono ?_); (case side1 => refine IsS66.now (wF := wS) ?_; exact IsS66.go HI0.out); (case side2 => exact Ext.s2 GE352.out (IsS66.ge HI0.out) HB.out); (case side3 => exact HR1_4.out); (case side4 => exact HC1_4.out); rintro e w59 ⟨rfl, hi, hb⟩; refine ⟨_, rfl, ?_⟩; replace HB := Ext.a (hb); replace HI0 := Ext.a (IsS66.then (by exact IsS66.go HI0.out) hi); replace BK352 := Ext.a (IsS66.blk hi (by exact BK352.out) NB352_0.out (by decide)); (try clear hb hi); obtain ⟨⟨vbz60, HGz60, hgz60, hoz60⟩, hfz60⟩ := HI0.out; have hcz60_1 := cellS66_1 HGz60; have hfz60_1 := blk_frozen HGz60 1; clear HGz60 hgz60 hoz60 hfz60))
       first | go_end0 | ((try simp only [Exit.inBlock, Exit.then]); refine bodyPost_ret (results_none rfl _ _ _) rfl ?_)
       exact ⟨by first | rfl | (simp [errW_none, errW_some] <;> rfl) | (simp [*, errW_none, errW_some] <;> rfl), by exact IsS66.go HI0.out, by exact Ext.s2 GE352.out (IsS66.ge HI0.out) HB.out⟩
      ·
       replace c56 := Bool.eq_false_iff.mpr c56; subst c56; rw [if_neg Bool.false_ne_true] at H; simp only [Option.some.injEq, Prod.mk.injEq] at H; obtain ⟨rfl, rfl⟩ := H; have hnb61 := NB352_0.out; have hnc61 := NB0_352.out; obtain ⟨hcz62_0, hcz62_1, hcz62_2, hcz62_3, hcz62_4, hcz62_5⟩ := Ext.cells6 BK352.out; obtain ⟨hfz62_0, hfz62_1, hfz62_2, hfz62_3, hfz62_4, hfz62_5⟩ := Ext.froz6 BK352.out
       go_wp2_with (first | ((with_reducible refine gate_callee (f := 50) rfl ?_); refine Ext.gs (some 70) rfl rfl Try.func50 #[.pointer (some ⟨g, 0, none⟩), .slice A1_4 l1_4.length c1_4] rfl ?_; (with_reducible refine (terrierref20_out_kvs.calls kj3 g t353 t354 _ _ l1_4 t361 false w _ ?side1 ?side2 ?side3 ?side4 A50.out).mono ?_); (case side1 => refine IsS66.now (wF := wS) ?_; exact IsS66.go HI0.out); (case side2 => exact Ext.s2 GE352.out (IsS66.ge HI0.out) HB.out); (case side3 => exact HR1_4.out); (case side4 => exact HC1_4.out); rintro e w63 ⟨rfl, hi, hb⟩; refine ⟨_, rfl, ?_⟩; replace HB := Ext.a (hb); replace HI0 := Ext.a (IsS66.then (by exact IsS66.go HI0.out) hi); replace BK352 := Ext.a (IsS66.blk hi (by exact BK352.out) NB352_0.out (by decide)); (try clear hb hi); obtain ⟨⟨vbz64, HGz64, hgz64, hoz64⟩, hfz64⟩ := HI0.out; have hcz64_1 := cellS66_1 HGz64; have hfz64_1 := blk_frozen HGz64 1; clear HGz64 hgz64 hoz64 hfz64; obtain ⟨hcz65_0, hcz65_1, hcz65_2, hcz65_3, hcz65_4, hcz65_5⟩ := Ext.cells6 BK352.out; obtain ⟨hfz65_0, hfz65_1, hfz65_2, hfz65_3, hfz65_4, hfz65_5⟩ := Ext.froz6 BK352.out))
       first | go_end0 | ((try simp only [Exit.inBlock, Exit.then]); refine bodyPost_ret (results_none rfl _ _ _) rfl ?_)
       exact ⟨by first | rfl | (simp [errW_none, errW_some] <;> rfl) | (simp [*, errW_none, errW_some] <;> rfl), by exact IsS66.go HI0.out, by exact Ext.s2 GE352.out (IsS66.ge HI0.out) HB.out⟩
    ·
     rw [if_neg c49] at H; obtain ⟨c49b0, c49b1⟩ := Ext.eF c49
     by_cases c66 : a1_0 = 3
     ·
      rw [if_pos c66] at H; obtain ⟨c66b0, c66b1⟩ := Ext.eT c66; clear c66; replace H := Option.bind_eq_some_iff.mp H; obtain ⟨⟨t363, t364⟩, A670, H⟩ := H; (try dsimp only at H); have A67 := Aside0.mk A670; clear A670; replace H := Option.bind_eq_some_iff.mp H; obtain ⟨⟨t365, t366⟩, A680, H⟩ := H; (try dsimp only at H); have A68 := Aside0.mk A680; clear A680
      by_cases c69 : t366 = true
      ·
       subst c69; rw [if_pos rfl] at H; simp only [Option.some.injEq, Prod.mk.injEq] at H; obtain ⟨rfl, rfl⟩ := H; have hnb70 := NB352_0.out; have hnc70 := NB0_352.out; obtain ⟨hcz71_0, hcz71_1, hcz71_2, hcz71_3, hcz71_4, hcz71_5⟩ := Ext.cells6 BK352.out; obtain ⟨hfz71_0, hfz71_1, hfz71_2, hfz71_3, hfz71_4, hfz71_5⟩ := Ext.froz6 BK352.out
       go_wp2_with (first | ((with_reducible refine gate_callee (f := 25) rfl ?_); refine Ext.gs (some 91) rfl rfl Try.func25 #[.pointer (some ⟨g, 0, none⟩), .int .i64 a1_5] rfl ?_; (with_reducible refine (terrierref20_out_num.calls kj3 g t353 t354 a1_5 t363 t364 w _ ?side1 ?side2 A67.out).mono ?_); (case side1 => refine IsS66.now (wF := wS) ?_; exact IsS66.go HI0.out); (case side2 => exact Ext.s2 GE352.out (IsS66.ge HI0.out) HB.out); rintro e w72 ⟨rfl, hi, hb⟩; refine ⟨_, rfl, ?_⟩; replace HB := Ext.a (hb); replace HI0 := Ext.a (IsS66.then (by exact IsS66.go HI0.out) hi); replace BK352 := Ext.a (IsS66.blk hi (by exact BK352.out) NB352_0.out (by decide)); (try clear hb hi); obtain ⟨hcz73_0, hcz73_1, hcz73_2, hcz73_3, hcz73_4, hcz73_5⟩ := Ext.cells6 BK352.out; obtain ⟨hfz73_0, hfz73_1, hfz73_2, hfz73_3, hfz73_4, hfz73_5⟩ := Ext.froz6 BK352.out) | ((with_reducible refine gate_callee (f := 50) rfl ?_); refine Ext.gs (some 95) rfl rfl Try.func50 #[.pointer (some ⟨g, 0, none⟩), .slice A1_4 l1_4.length c1_4] rfl ?_; (with_reducible refine (terrierref20_out_kvs.calls kj3 g t363 t364 _ _ l1_4 t365 true w _ ?side1 ?side2 ?side3 ?side4 A68.out).mono ?_); (case side1 => refine IsS66.now (wF := wS) ?_; exact IsS66.go HI0.out); (case side2 => exact Ext.s2 GE352.out (IsS66.ge HI0.out) HB.out); (case side3 => exact HR1_4.out); (case side4 => exact HC1_4.out); rintro e w74 ⟨rfl, hi, hb⟩; refine ⟨_, rfl, ?_⟩; replace HB := Ext.a (hb); replace HI0 := Ext.a (IsS66.then (by exact IsS66.go HI0.out) hi); replace BK352 := Ext.a (IsS66.blk hi (by exact BK352.out) NB352_0.out (by decide)); (try clear hb hi); obtain ⟨⟨vbz75, HGz75, hgz75, hoz75⟩, hfz75⟩ := HI0.out; have hcz75_1 := cellS66_1 HGz75; have hfz75_1 := blk_frozen HGz75 1; clear HGz75 hgz75 hoz75 hfz75))
       first | go_end0 | ((try simp only [Exit.inBlock, Exit.then]); refine bodyPost_ret (results_none rfl _ _ _) rfl ?_)
       exact ⟨by first | rfl | (simp [errW_none, errW_some] <;> rfl) | (simp [*, errW_none, errW_some] <;> rfl), by exact IsS66.go HI0.out, by exact Ext.s2 GE352.out (IsS66.ge HI0.out) HB.out⟩
      ·
       replace c69 := Bool.eq_false_iff.mpr c69; subst c69; rw [if_neg Bool.false_ne_true] at H; simp only [Option.some.injEq, Prod.mk.injEq] at H; obtain ⟨rfl, rfl⟩ := H; have hnb76 := NB352_0.out; have hnc76 := NB0_352.out; obtain ⟨hcz77_0, hcz77_1, hcz77_2, hcz77_3, hcz77_4, hcz77_5⟩ := Ext.cells6 BK352.out; obtain ⟨hfz77_0, hfz77_1, hfz77_2, hfz77_3, hfz77_4, hfz77_5⟩ := Ext.froz6 BK352.out
       go_wp2_with (first | ((with_reducible refine gate_callee (f := 25) rfl ?_); refine Ext.gs (some 91) rfl rfl Try.func25 #[.pointer (some ⟨g, 0, none⟩), .int .i64 a1_5] rfl ?_; (with_reducible refine (terrierref20_out_num.calls kj3 g t353 t354 a1_5 t363 t364 w _ ?side1 ?side2 A67.out).mono ?_); (case side1 => refine IsS66.now (wF := wS) ?_; exact IsS66.go HI0.out); (case side2 => exact Ext.s2 GE352.out (IsS66.ge HI0.out) HB.out); rintro e w78 ⟨rfl, hi, hb⟩; refine ⟨_, rfl, ?_⟩; replace HB := Ext.a (hb); replace HI0 := Ext.a (IsS66.then (by exact IsS66.go HI0.out) hi); replace BK352 := Ext.a (IsS66.blk hi (by exact BK352.out) NB352_0.out (by decide)); (try clear hb hi); obtain ⟨hcz79_0, hcz79_1, hcz79_2, hcz79_3, hcz79_4, hcz79_5⟩ := Ext.cells6 BK352.out; obtain ⟨hfz79_0, hfz79_1, hfz79_2, hfz79_3, hfz79_4, hfz79_5⟩ := Ext.froz6 BK352.out) | ((with_reducible refine gate_callee (f := 50) rfl ?_); refine Ext.gs (some 95) rfl rfl Try.func50 #[.pointer (some ⟨g, 0, none⟩), .slice A1_4 l1_4.length c1_4] rfl ?_; (with_reducible refine (terrierref20_out_kvs.calls kj3 g t363 t364 _ _ l1_4 t365 false w _ ?side1 ?side2 ?side3 ?side4 A68.out).mono ?_); (case side1 => refine IsS66.now (wF := wS) ?_; exact IsS66.go HI0.out); (case side2 => exact Ext.s2 GE352.out (IsS66.ge HI0.out) HB.out); (case side3 => exact HR1_4.out); (case side4 => exact HC1_4.out); rintro e w80 ⟨rfl, hi, hb⟩; refine ⟨_, rfl, ?_⟩; replace HB := Ext.a (hb); replace HI0 := Ext.a (IsS66.then (by exact IsS66.go HI0.out) hi); replace BK352 := Ext.a (IsS66.blk hi (by exact BK352.out) NB352_0.out (by decide)); (try clear hb hi); obtain ⟨⟨vbz81, HGz81, hgz81, hoz81⟩, hfz81⟩ := HI0.out; have hcz81_1 := cellS66_1 HGz81; have hfz81_1 := blk_frozen HGz81 1; clear HGz81 hgz81 hoz81 hfz81))
       first | go_end0 | ((try simp only [Exit.inBlock, Exit.then]); refine bodyPost_ret (results_none rfl _ _ _) rfl ?_)
       exact ⟨by first | rfl | (simp [errW_none, errW_some] <;> rfl) | (simp [*, errW_none, errW_some] <;> rfl), by exact IsS66.go HI0.out, by exact Ext.s2 GE352.out (IsS66.ge HI0.out) HB.out⟩
     ·
      rw [if_neg c66] at H; obtain ⟨c66b0, c66b1⟩ := Ext.eF c66; simp only [Option.some.injEq, Prod.mk.injEq] at H; obtain ⟨rfl, rfl⟩ := H; have hnb82 := NB352_0.out; have hnc82 := NB0_352.out; obtain ⟨hcz83_0, hcz83_1, hcz83_2, hcz83_3, hcz83_4, hcz83_5⟩ := Ext.cells6 BK352.out; obtain ⟨hfz83_0, hfz83_1, hfz83_2, hfz83_3, hfz83_4, hfz83_5⟩ := Ext.froz6 BK352.out; obtain ⟨⟨vbz84, HGz84, hgz84, hoz84⟩, hfz84⟩ := HI0.out; have hcz84_1 := cellS66_1 HGz84; have hfz84_1 := blk_frozen HGz84 1; clear HGz84 hgz84 hoz84 hfz84
      go_wp2
      first | go_end0 | ((try simp only [Exit.inBlock, Exit.then]); refine bodyPost_ret (results_none rfl _ _ _) rfl ?_)
      exact ⟨by first | rfl | (simp [errW_none, errW_some] <;> rfl) | (simp [*, errW_none, errW_some] <;> rfl), by exact IsS66.go HI0.out, by exact Ext.s2 GE352.out (IsS66.ge HI0.out) HB.out⟩

end Go.Proofs.Ytlhjdmpclfhoeaa.PC
