-- Written by wip/printx.py, a program of this work over the kit's print, for this claim.
import Derived.Test.YtlhjdmpclfhoeaaPJx0
import Derived.Test.YtlhjdmpclfhoeaaPJx10
namespace Go.Proofs.Ytlhjdmpclfhoeaa.PJ
open Go.RowKit Go.Proofs.YtlhjdmpclfhoeaaW.PrintWords Go.Proofs.YtlhjdmpclfhoeaaW.PrintLast Go.Proofs.YtlhjdmpclfhoeaaW.PrintMore
attribute [local go_sem] max2_int min2_int max_two min_two max_three min_three max_four min_four   -- for this text's walks alone
attribute [local go_sem] Ext.pick_u8 Ext.pick_u32 Ext.pick_u64
set_option linter.unusedVariables false
set_option linter.unusedSimpArgs false



/-! ### terrierref20_out_small: function 24 -/
def terrierref20_out_small.f (s0_0 : List Int) (s0_1 : Bool) (a1 : Int) : Option (List Int × Bool) := if a1 < 0 then ((terrierref20_out_add.f s0_0 true (([(a1) % 256] : List Int))).bind fun bt318 => (some (bt318.1, bt318.2))) else (if a1 > 255 then ((terrierref20_out_add.f s0_0 true (([(a1) % 256] : List Int))).bind fun bt323 => (some (bt323.1, bt323.2))) else ((terrierref20_out_add.f s0_0 s0_1 (([(a1) % 256] : List Int))).bind fun bt328 => (some (bt328.1, bt328.2))))
set_option maxHeartbeats 8000000 in
set_option maxRecDepth 100000 in
theorem terrierref20_out_small.calls (g : Nat) (s0_0 : List Int) (s0_1 : Bool) (a1 : Int) (r1 : List Int) (r2 : Bool) (w wS : World) (hI : IsS66 w wS wS g s0_0 s0_1) (hB : Below w.heap.size w wS) (h : terrierref20_out_small.f s0_0 s0_1 a1 = some (r1, r2)) :
  Calls Try.prog 24 #[.pointer (some ⟨g, 0, none⟩), .int .i64 a1] wS fun e w' => e = .returned (.tuple #[]) ∧ IsS66 w wS w' g r1 r2 ∧ Below w.heap.size w w' := by
 have HI0 := Aside0.mk hI; have HB := Aside0.mk hB; clear hI hB; have H := h; unfold terrierref20_out_small.f at H; clear h
 by_cases c3 : a1 < 0
 ·
  rw [if_pos c3] at H; have c3b0 := decide_eq_true c3; clear c3; obtain ⟨y315, hy315⟩ : ∃ y_ : List Int, y_ = (([(a1) % 256] : List Int)) := ⟨_, rfl⟩
  replace H : ((terrierref20_out_add.f s0_0 true y315).bind fun bt318 => (some (bt318.1, bt318.2))) = some (r1, r2) := by first | (rw [hy315]; with_reducible exact H) | (have H2_ := (Option.bind_some _ _).symm.trans H; rw [hy315]; with_reducible exact H2_) | (have H2_ := (Option.bind_some _ _).symm.trans H; with_reducible exact H2_) | with_reducible exact H | (rw [hy315]; exact H) | exact H
  have Ny315 := Aside0.mk hy315; clear hy315; replace H := Option.bind_eq_some_iff.mp H; obtain ⟨⟨t318, t319⟩, A40, H⟩ := H; (try dsimp only at H); have A4 := Aside0.mk A40; clear A40; simp only [Option.some.injEq, Prod.mk.injEq] at H; obtain ⟨rfl, rfl⟩ := H; obtain ⟨⟨vbz5, HGz5, hgz5, hoz5⟩, hfz5⟩ := HI0.out; have hcz5_1 := cellS66_1 HGz5; have hfz5_1 := blk_frozen HGz5 1; clear HGz5 hgz5 hoz5 hfz5
  go_enter Try.func24, Try.ntmps24
  go_wp2_with (first | ((with_reducible refine gate_dst (N := 16) rfl ?_); refine Kd.R_lit (Kd.int .u8) _ 5 ?hg (N := 16) ?hd (xs := ([(a1) % 256] : List Int)) (inner := [.int .u8 ((a1) % 256)]) (ok := fun _ => True) (okp := fun _ => True) ?hr ?hp (fun _ hk => hk) trivial (Below.refl _ _) (Nat.le_refl _) (by simp) ?_; (case hd => rfl); (case hg => rfl); (case hr => first | (go_simp; done) | (go_simp; rfl)); (case hp => exact (Reps.one (show Kd.M (Kd.int .u8) _ _ _ ((a1) % 256) [.int .u8 ((a1) % 256)] from rfl) (Reps.none _ _))); intro v316 w6 ho7 hb hg_ hnew_; clear hg_ hnew_; (first | rw [← Ny315.out] at ho7 | (simp only [Int.reduceToNat] at ho7; rw [← Ny315.out] at ho7)); have HO317 := Ext.a (Kd.R_lower ho7 (below_size (Ext.s1 (IsS66.ge HI0.out) HB.out))); replace HB := Ext.a (below_step (Ext.s1 (IsS66.ge HI0.out) HB.out) hb); replace HI0 := Ext.a (IsS66.below (show IsS66 w wS (wS.setCell ⟨g, 1, none⟩ (.bool true)) g s0_0 true from by exact IsS66.go HI0.out) hb); clear hb ho7; obtain ⟨Ao8, co8, eo8⟩ := Kd.R_slice HO317.out; subst eo8) | ((with_reducible refine gate_callee (f := 32) rfl ?_); refine Ext.gs (some 17) rfl rfl Try.func32 #[.pointer (some ⟨g, 0, none⟩), .slice Ao8 y315.length co8] rfl ?_; (with_reducible refine (terrierref20_out_add.calls g s0_0 true _ _ y315 t318 t319 w _ ?side1 ?side2 ?side3 ?side4 A4.out).mono ?_); (case side1 => refine IsS66.now (wF := wS) ?_; repeat (first | (with_reducible first | exact HI0.out | apply IsS66.alloc | apply IsS66.drewN | apply IsS66.drew | apply IsS66.set_1) | exact HI0.out)); (case side2 => exact Ext.s1 (IsS66.ge HI0.out) HB.out); (case side3 => exact Ext.nC (Kd.R_reads' HO317.out).2.2); (case side4 => exact (Kd.R_reads' HO317.out).2.1); rintro e w9 ⟨rfl, hi, hb⟩; refine ⟨_, rfl, ?_⟩; replace HB := Ext.a (hb); replace HI0 := Ext.a (IsS66.then (IsS66.go HI0.out) hi); clear HO317; (try clear hb hi)))
  first | go_end0 | ((try simp only [Exit.inBlock, Exit.then]); refine bodyPost_ret (results_none rfl _ _ _) rfl ?_)
  exact ⟨by first | rfl | (simp [errW_none, errW_some] <;> rfl) | (simp [*, errW_none, errW_some] <;> rfl), by exact IsS66.go HI0.out, by exact Ext.s1 (IsS66.ge HI0.out) HB.out⟩
 ·
  rw [if_neg c3] at H; have c3b0 := decide_eq_false c3; clear c3
  by_cases c10 : a1 > 255
  ·
   rw [if_pos c10] at H; have c10b0 := decide_eq_true c10; clear c10; obtain ⟨y320, hy320⟩ : ∃ y_ : List Int, y_ = (([(a1) % 256] : List Int)) := ⟨_, rfl⟩
   replace H : ((terrierref20_out_add.f s0_0 true y320).bind fun bt323 => (some (bt323.1, bt323.2))) = some (r1, r2) := by first | (rw [hy320]; with_reducible exact H) | (have H2_ := (Option.bind_some _ _).symm.trans H; rw [hy320]; with_reducible exact H2_) | (have H2_ := (Option.bind_some _ _).symm.trans H; with_reducible exact H2_) | with_reducible exact H | (rw [hy320]; exact H) | exact H
   have Ny320 := Aside0.mk hy320; clear hy320; replace H := Option.bind_eq_some_iff.mp H; obtain ⟨⟨t323, t324⟩, A110, H⟩ := H; (try dsimp only at H); have A11 := Aside0.mk A110; clear A110; simp only [Option.some.injEq, Prod.mk.injEq] at H; obtain ⟨rfl, rfl⟩ := H; obtain ⟨⟨vbz12, HGz12, hgz12, hoz12⟩, hfz12⟩ := HI0.out; have hcz12_1 := cellS66_1 HGz12; have hfz12_1 := blk_frozen HGz12 1; clear HGz12 hgz12 hoz12 hfz12
   go_enter Try.func24, Try.ntmps24
   go_wp2_with (first | ((with_reducible refine gate_dst (N := 16) rfl ?_); refine Kd.R_lit (Kd.int .u8) _ 5 ?hg (N := 16) ?hd (xs := ([(a1) % 256] : List Int)) (inner := [.int .u8 ((a1) % 256)]) (ok := fun _ => True) (okp := fun _ => True) ?hr ?hp (fun _ hk => hk) trivial (Below.refl _ _) (Nat.le_refl _) (by simp) ?_; (case hd => rfl); (case hg => rfl); (case hr => first | (go_simp; done) | (go_simp; rfl)); (case hp => exact (Reps.one (show Kd.M (Kd.int .u8) _ _ _ ((a1) % 256) [.int .u8 ((a1) % 256)] from rfl) (Reps.none _ _))); intro v321 w13 ho14 hb hg_ hnew_; clear hg_ hnew_; (first | rw [← Ny320.out] at ho14 | (simp only [Int.reduceToNat] at ho14; rw [← Ny320.out] at ho14)); have HO322 := Ext.a (Kd.R_lower ho14 (below_size (Ext.s1 (IsS66.ge HI0.out) HB.out))); replace HB := Ext.a (below_step (Ext.s1 (IsS66.ge HI0.out) HB.out) hb); replace HI0 := Ext.a (IsS66.below (show IsS66 w wS (wS.setCell ⟨g, 1, none⟩ (.bool true)) g s0_0 true from by exact IsS66.go HI0.out) hb); clear hb ho14; obtain ⟨Ao15, co15, eo15⟩ := Kd.R_slice HO322.out; subst eo15) | ((with_reducible refine gate_callee (f := 32) rfl ?_); refine Ext.gs (some 17) rfl rfl Try.func32 #[.pointer (some ⟨g, 0, none⟩), .slice Ao15 y320.length co15] rfl ?_; (with_reducible refine (terrierref20_out_add.calls g s0_0 true _ _ y320 t323 t324 w _ ?side1 ?side2 ?side3 ?side4 A11.out).mono ?_); (case side1 => refine IsS66.now (wF := wS) ?_; repeat (first | (with_reducible first | exact HI0.out | apply IsS66.alloc | apply IsS66.drewN | apply IsS66.drew | apply IsS66.set_1) | exact HI0.out)); (case side2 => exact Ext.s1 (IsS66.ge HI0.out) HB.out); (case side3 => exact Ext.nC (Kd.R_reads' HO322.out).2.2); (case side4 => exact (Kd.R_reads' HO322.out).2.1); rintro e w16 ⟨rfl, hi, hb⟩; refine ⟨_, rfl, ?_⟩; replace HB := Ext.a (hb); replace HI0 := Ext.a (IsS66.then (IsS66.go HI0.out) hi); clear HO322; (try clear hb hi)))
   first | go_end0 | ((try simp only [Exit.inBlock, Exit.then]); refine bodyPost_ret (results_none rfl _ _ _) rfl ?_)
   exact ⟨by first | rfl | (simp [errW_none, errW_some] <;> rfl) | (simp [*, errW_none, errW_some] <;> rfl), by exact IsS66.go HI0.out, by exact Ext.s1 (IsS66.ge HI0.out) HB.out⟩
  ·
   rw [if_neg c10] at H; have c10b0 := decide_eq_false c10; clear c10; obtain ⟨y325, hy325⟩ : ∃ y_ : List Int, y_ = (([(a1) % 256] : List Int)) := ⟨_, rfl⟩
   replace H : ((terrierref20_out_add.f s0_0 s0_1 y325).bind fun bt328 => (some (bt328.1, bt328.2))) = some (r1, r2) := by first | (rw [hy325]; with_reducible exact H) | (have H2_ := (Option.bind_some _ _).symm.trans H; rw [hy325]; with_reducible exact H2_) | (have H2_ := (Option.bind_some _ _).symm.trans H; with_reducible exact H2_) | with_reducible exact H | (rw [hy325]; exact H) | exact H
   have Ny325 := Aside0.mk hy325; clear hy325; replace H := Option.bind_eq_some_iff.mp H; obtain ⟨⟨t328, t329⟩, A170, H⟩ := H; (try dsimp only at H); have A17 := Aside0.mk A170; clear A170; simp only [Option.some.injEq, Prod.mk.injEq] at H; obtain ⟨rfl, rfl⟩ := H
   go_enter Try.func24, Try.ntmps24
   go_wp2_with (first | ((with_reducible refine gate_dst (N := 16) rfl ?_); refine Kd.R_lit (Kd.int .u8) _ 5 ?hg (N := 16) ?hd (xs := ([(a1) % 256] : List Int)) (inner := [.int .u8 ((a1) % 256)]) (ok := fun _ => True) (okp := fun _ => True) ?hr ?hp (fun _ hk => hk) trivial (Below.refl _ _) (Nat.le_refl _) (by simp) ?_; (case hd => rfl); (case hg => rfl); (case hr => first | (go_simp; done) | (go_simp; rfl)); (case hp => exact (Reps.one (show Kd.M (Kd.int .u8) _ _ _ ((a1) % 256) [.int .u8 ((a1) % 256)] from rfl) (Reps.none _ _))); intro v326 w18 ho19 hb hg_ hnew_; clear hg_ hnew_; (first | rw [← Ny325.out] at ho19 | (simp only [Int.reduceToNat] at ho19; rw [← Ny325.out] at ho19)); have HO327 := Ext.a (Kd.R_lower ho19 (below_size (Ext.s1 (IsS66.ge HI0.out) HB.out))); replace HB := Ext.a (below_step (Ext.s1 (IsS66.ge HI0.out) HB.out) hb); replace HI0 := Ext.a (IsS66.below (IsS66.go HI0.out) hb); clear hb ho19; obtain ⟨Ao20, co20, eo20⟩ := Kd.R_slice HO327.out; subst eo20) | ((with_reducible refine gate_callee (f := 32) rfl ?_); refine Ext.gs (some 17) rfl rfl Try.func32 #[.pointer (some ⟨g, 0, none⟩), .slice Ao20 y325.length co20] rfl ?_; (with_reducible refine (terrierref20_out_add.calls g s0_0 s0_1 _ _ y325 t328 t329 w _ ?side1 ?side2 ?side3 ?side4 A17.out).mono ?_); (case side1 => refine IsS66.now (wF := wS) ?_; repeat (first | (with_reducible first | exact HI0.out | apply IsS66.alloc | apply IsS66.drewN | apply IsS66.drew | apply IsS66.set_1) | exact HI0.out)); (case side2 => exact Ext.s1 (IsS66.ge HI0.out) HB.out); (case side3 => exact Ext.nC (Kd.R_reads' HO327.out).2.2); (case side4 => exact (Kd.R_reads' HO327.out).2.1); rintro e w21 ⟨rfl, hi, hb⟩; refine ⟨_, rfl, ?_⟩; replace HB := Ext.a (hb); replace HI0 := Ext.a (IsS66.then (IsS66.go HI0.out) hi); clear HO327; (try clear hb hi)))
   first | go_end0 | ((try simp only [Exit.inBlock, Exit.then]); refine bodyPost_ret (results_none rfl _ _ _) rfl ?_)
   exact ⟨by first | rfl | (simp [errW_none, errW_some] <;> rfl) | (simp [*, errW_none, errW_some] <;> rfl), by exact IsS66.go HI0.out, by exact Ext.s1 (IsS66.ge HI0.out) HB.out⟩



/-! ### terrierref01_Put: function 33 -/
def terrierref01_Put.l0 : Nat → Int → Int → List Int → Int → Option (List Int)
 | 0, _, _, _, _ => none
 | k + 1, x0, x1, x5, x6 => if x6 < x1 then ((some (([(Int.tmod x0 256) % 256] : List Int) : List Int)).bind fun y333 => (if y333.length + x5.length < 140737488355328 then (terrierref01_Put.l0 k (IntKind.u64.wrap (Int.tdiv x0 256)) x1 (y333 ++ x5) (wrap64 (x6 + 1))) else (none))) else (some x5)
def terrierref01_Put.f (k : Nat) (a0 : Int) (a1 : Int) : Option (List Int) := terrierref01_Put.l0 k a0 a1 (([] : List Int)) 0
theorem terrierref01_Put.mono_l : ∀ k, (∀ y0 y1 y2 y3, LeO (terrierref01_Put.l0 k y0 y1 y2 y3) (terrierref01_Put.l0 (k + 1) y0 y1 y2 y3))
 | 0 => fun _ _ _ _ r h => by simp [terrierref01_Put.l0] at h
 | k + 1 => by
  have ih0 := terrierref01_Put.mono_l k
  ·
   intro y0 y1 y2 y3
   unfold terrierref01_Put.l0
   repeat' first
   | (with_reducible exact ih0 _ _ _ _)
   | (with_reducible exact LeO.refl _)
   | (with_reducible exact LeO.none _)
   | (with_reducible refine LeO.ite ?_ ?_)
   | (with_reducible refine LeO.bind ?_ (fun _ => ?_))
   | exact ih0 _ _ _ _
   | exact LeO.none _
   | refine LeO.ite ?_ ?_
   | refine LeO.bind ?_ (fun _ => ?_)
theorem terrierref01_Put.mono : ∀ a0 a1 k, LeO (terrierref01_Put.f k a0 a1) (terrierref01_Put.f (k + 1) a0 a1) := by
 intro a0 a1 k
 have ih0 := terrierref01_Put.mono_l k; unfold terrierref01_Put.f
 repeat' first
   | (with_reducible exact ih0 _ _ _ _)
   | (with_reducible exact LeO.refl _)
   | (with_reducible exact LeO.none _)
   | (with_reducible refine LeO.ite ?_ ?_)
   | (with_reducible refine LeO.bind ?_ (fun _ => ?_))
   | exact ih0 _ _ _ _
   | exact LeO.none _
   | refine LeO.ite ?_ ?_
   | refine LeO.bind ?_ (fun _ => ?_)
set_option maxHeartbeats 8000000 in
set_option maxRecDepth 100000 in
theorem terrierref01_Put.calls (k : Nat) (a0 : Int) (a1 : Int) (r : List Int) (w : World) (h : terrierref01_Put.f k a0 a1 = some r) :
  Calls Try.prog 33 #[.int .u64 a0, .int .i64 a1] w fun e w' => ∃ v0_ : Value, e = .returned (v0_) ∧ Kd.R (Kd.int .u8) 5 w' w.heap.size (fun _ => True) v0_ r ∧ Below w.heap.size w w' := by
 have HB := Ext.a (Below.refl w.heap.size w); have H := h; unfold terrierref01_Put.f at H; clear h; obtain ⟨y330, hy330⟩ : ∃ y_ : List Int, y_ = (([] : List Int)) := ⟨_, rfl⟩
 replace H : (terrierref01_Put.l0 k a0 a1 y330 0) = some r := by first | (rw [hy330]; with_reducible exact H) | (have H2_ := (Option.bind_some _ _).symm.trans H; rw [hy330]; with_reducible exact H2_) | (have H2_ := (Option.bind_some _ _).symm.trans H; with_reducible exact H2_) | with_reducible exact H | (rw [hy330]; exact H) | exact H
 have Ny330 := Aside0.mk hy330; clear hy330; have H' := Aside0.mk H; clear H
 go_enter Try.func33, Try.ntmps33
 go_wp2_with (first | ((with_reducible refine gate_dst (N := 7) rfl ?_); refine Kd.R_lit (Kd.int .u8) _ 5 ?hg (N := 7) ?hd (xs := ([] : List Int)) (inner := []) (ok := fun _ => True) (okp := fun _ => True) ?hr ?hp (fun _ hk => hk) trivial (Below.refl _ _) (Nat.le_refl _) (by simp) ?_; (case hd => rfl); (case hg => rfl); (case hr => first | (go_simp; done) | (go_simp; rfl)); (case hp => exact (Reps.none _ _)); intro v331 w3 ho4 hb hg_ hnew_; clear hg_ hnew_; (first | rw [← Ny330.out] at ho4 | (simp only [Int.reduceToNat] at ho4; rw [← Ny330.out] at ho4)); have HO332 := Ext.a (Kd.R_lower ho4 (below_size (Ext.nB HB.out))); replace HB := Ext.a (below_step (Ext.nB HB.out) hb); clear hb ho4))
 go_loopg [0, 5, 6] k (fun kq v0 v5 v6 w' => ∃ (x0_1 : Int) (x5_1 : List Int) (x6_1 : Int), v0 = .int .u64 x0_1 ∧ v6 = .int .i64 x6_1 ∧ Aside0 (terrierref01_Put.l0 kq x0_1 a1 x5_1 x6_1 = some r) ∧ Aside0 (kq ≤ k) ∧ Aside0 (Kd.R (Kd.int .u8) 5 w' w.heap.size (fun _ => True) v5 x5_1) ∧ Aside0 (Below w.heap.size w w'))
 case atStart => exact ⟨(a0), (y330), (0), (by first | rfl | (simp; done) | (simp [*]; done)), (by first | rfl | (simp; done) | (simp [*]; done)), H', ⟨Nat.le_refl _⟩, ⟨by exact Ext.nR HO332.out⟩, ⟨by exact Ext.nB HB.out⟩⟩
 case round =>
  clear H'; (try clear p2 c3); obtain ⟨x0_1, x5_1, x6_1, rfl, rfl, HA, HK1, HO_5, HB⟩ := hrel; cases gk with
  | zero => exact absurd HA.out (by simp [terrierref01_Put.l0])
  | succ k1 =>
   have H := HA.out; clear HA; simp only [terrierref01_Put.l0] at H
   by_cases c5 : x6_1 < a1
   ·
    rw [if_pos c5] at H; have c5b0 := decide_eq_true c5; clear c5; obtain ⟨y333, hy333⟩ : ∃ y_ : List Int, y_ = (([(Int.tmod x0_1 256) % 256] : List Int)) := ⟨_, rfl⟩
    replace H : (if y333.length + x5_1.length < 140737488355328 then (terrierref01_Put.l0 k1 (IntKind.u64.wrap (Int.tdiv x0_1 256)) a1 (y333 ++ x5_1) (wrap64 (x6_1 + 1))) else (none)) = some r := by first | (rw [hy333]; with_reducible exact H) | (have H2_ := (Option.bind_some _ _).symm.trans H; rw [hy333]; with_reducible exact H2_) | (have H2_ := (Option.bind_some _ _).symm.trans H; with_reducible exact H2_) | with_reducible exact H | (rw [hy333]; exact H) | exact H
    have Ny333 := Aside0.mk hy333; clear hy333
    by_cases c6 : y333.length + x5_1.length < 140737488355328
    ·
     rw [if_pos c6] at H; have LMc6 := Aside0.mk c6; clear c6; obtain ⟨y336, hy336⟩ : ∃ y_ : List Int, y_ = (y333 ++ x5_1) := ⟨_, rfl⟩
     replace H : (terrierref01_Put.l0 k1 (IntKind.u64.wrap (Int.tdiv x0_1 256)) a1 y336 (wrap64 (x6_1 + 1))) = some r := by first | (rw [hy336]; with_reducible exact H) | (have H2_ := (Option.bind_some _ _).symm.trans H; rw [hy336]; with_reducible exact H2_) | (have H2_ := (Option.bind_some _ _).symm.trans H; with_reducible exact H2_) | with_reducible exact H | (rw [hy336]; exact H) | exact H
     have Ny336 := Aside0.mk hy336; clear hy336; have H' := Aside0.mk H; clear H
     go_wp2_with (first | ((with_reducible refine gate_dst (N := 16) rfl ?_); refine Kd.R_lit (Kd.int .u8) _ 5 ?hg (N := 16) ?hd (xs := ([(Int.tmod x0_1 256) % 256] : List Int)) (inner := [.int .u8 ((Int.tmod x0_1 256) % 256)]) (ok := fun _ => True) (okp := fun _ => True) ?hr ?hp (fun _ hk => hk) trivial (Below.refl _ _) (Nat.le_refl _) (by simp) ?_; (case hd => rfl); (case hg => rfl); (case hr => first | (go_simp; done) | (go_simp; rfl)); (case hp => exact (Reps.one (show Kd.M (Kd.int .u8) _ _ _ ((Int.tmod x0_1 256) % 256) [.int .u8 ((Int.tmod x0_1 256) % 256)] from rfl) (Reps.none _ _))); intro v334 w7 ho8 hb hg_ hnew_; clear hg_ hnew_; (first | rw [← Ny333.out] at ho8 | (simp only [Int.reduceToNat] at ho8; rw [← Ny333.out] at ho8)); have HO335 := Ext.a (Kd.R_lower (Kd.R_new' ho8 (Kd.R_lt (Ext.nR HO_5.out))) (below_size (Ext.nB HB.out))); replace HO_5 := Ext.a (Kd.R_elder' (Ext.nR HO_5.out) (Kd.R_base ho8) hb); replace HB := Ext.a (below_step (Ext.nB HB.out) hb); clear hb ho8; obtain ⟨Ao10, co10, eo10⟩ := Kd.R_slice HO_5.out; subst eo10) | ((with_reducible refine gate_builtin (b := .append) (xs := #[.tmp 16, .tmp 17]) rfl ?_); at_builtin; refine Kd.R_append_rows (Kd.int .u8) (w0 := w) w.heap.size rfl (.tmp 16) (.tmp 17) 36 5 (.int .u8 0) 1 rfl Try.underlying36 info5 rfl (by decide) (by omega) v334 y333 x5_1 _ _ _ (fun k_ => some k_ ≠ (.slice Ao10 x5_1.length co10 : Value).ownBlock) (fun _ => False) rfl rfl ?aO ?aR (fun _ _ h => h) (fun _ h => h.elim) ?aF ?aB ?aS ?aL ?_; (case aR => exact Ext.nC (Kd.R_reads' HO_5.out).2.2); (case aB => exact (Ext.nB HB.out)); (case aF => exact (fun k_ hk => Kd.fresh' (Kd.R_lt (Ext.nR HO_5.out)) k_ hk)); (case aO => exact (Ext.nR (Kd.R_mono HO335.out (fun _ hk => hk.2)))); (case aS => exact (below_size (Ext.nB HB.out))); (case aL => have := LMc6.out; omega); intro v337 w9 ho hb hg hat; rw [← Ny336.out] at ho; replace HO_5 := Ext.a (Kd.R_after (ok := (fun _ => True)) (Ext.nR HO_5.out) hg hat); replace HB := Ext.a (hb); have HO338 := Ext.a (ho); clear HO335; clear ho hb hg hat))
     go_roundg k1
     case measure => have := HK1.out; omega
     case rel => exact ⟨(IntKind.u64.wrap (Int.tdiv x0_1 256)), (y336), (wrap64 (x6_1 + 1)), (by first | rfl | (simp; done) | (simp [*]; done)), (by first | rfl | (simp; done) | (simp [*]; done)), H', ⟨by have := HK1.out; omega⟩, ⟨by (with_reducible repeat (first | apply Kd.R_alloc | apply Kd.R_drewN | apply Kd.R_drew)); exact Kd.R_mono HO338.out (fun _ hk => trivial)⟩, ⟨by exact Ext.nB HB.out⟩⟩
    · rw [if_neg c6] at H; exact absurd H (by simp)
   ·
    rw [if_neg c5] at H; have c5b0 := decide_eq_false c5; clear c5; obtain rfl := Option.some.inj H
    go_wp2
    go_ret
    exact ⟨_, by first | rfl | (simp [errW_none, errW_some] <;> rfl) | (simp [*, errW_none, errW_some] <;> rfl), by exact Ext.nR HO_5.out, by exact Ext.nB HB.out⟩



/-! ### terrierref20_out_num: function 25 -/
def terrierref20_out_num.f (k : Nat) (s0_0 : List Int) (s0_1 : Bool) (a1 : Int) : Option (List Int × Bool) := (terrierref01_Put.f k (IntKind.u64.wrap (a1)) 8).bind fun t339 => ((terrierref20_out_add.f s0_0 s0_1 t339).bind fun bt342 => (some (bt342.1, bt342.2)))
theorem terrierref20_out_num.mono : ∀ a0 a1 a2 k, LeO (terrierref20_out_num.f k a0 a1 a2) (terrierref20_out_num.f (k + 1) a0 a1 a2) := by
 intro a0 a1 a2 k
 unfold terrierref20_out_num.f
 repeat' first
   | (with_reducible exact terrierref01_Put.mono _ _ _)
   | (with_reducible exact LeO.refl _)
   | (with_reducible exact LeO.none _)
   | (with_reducible refine LeO.ite ?_ ?_)
   | (with_reducible refine LeO.bind ?_ (fun _ => ?_))
   | exact terrierref01_Put.mono _ _ _
   | exact LeO.none _
   | refine LeO.ite ?_ ?_
   | refine LeO.bind ?_ (fun _ => ?_)
set_option maxHeartbeats 8000000 in
set_option maxRecDepth 100000 in
theorem terrierref20_out_num.calls (k : Nat) (g : Nat) (s0_0 : List Int) (s0_1 : Bool) (a1 : Int) (r1 : List Int) (r2 : Bool) (w wS : World) (hI : IsS66 w wS wS g s0_0 s0_1) (hB : Below w.heap.size w wS) (h : terrierref20_out_num.f k s0_0 s0_1 a1 = some (r1, r2)) :
  Calls Try.prog 25 #[.pointer (some ⟨g, 0, none⟩), .int .i64 a1] wS fun e w' => e = .returned (.tuple #[]) ∧ IsS66 w wS w' g r1 r2 ∧ Below w.heap.size w w' := by
 have HI0 := Aside0.mk hI; have HB := Aside0.mk hB; clear hI hB; have H := h; unfold terrierref20_out_num.f at H; clear h; replace H := Option.bind_eq_some_iff.mp H; obtain ⟨t339, A30, H⟩ := H; (try dsimp only at H); have A3 := Aside0.mk A30; clear A30; replace H := Option.bind_eq_some_iff.mp H; obtain ⟨⟨t342, t343⟩, A40, H⟩ := H; (try dsimp only at H); have A4 := Aside0.mk A40; clear A40; simp only [Option.some.injEq, Prod.mk.injEq] at H; obtain ⟨rfl, rfl⟩ := H
 go_enter Try.func25, Try.ntmps25
 go_wp2_with (first | ((with_reducible refine gate_callee (f := 33) rfl ?_); refine Ext.gs (some 7) rfl rfl Try.func33 #[.int .u64 (IntKind.u64.wrap (a1)), .int .i64 8] rfl ?_; (with_reducible refine (terrierref01_Put.calls k (IntKind.u64.wrap (a1)) 8 t339 _ A3.out).mono ?_); rintro e w5 ⟨v340, rfl, ho0, hb⟩; refine ⟨_, rfl, ?_⟩; have HO341 := Ext.a (Kd.R_lower ho0 (below_size (Ext.s1 (IsS66.ge HI0.out) HB.out))); replace HB := Ext.a (below_step (Ext.s1 (IsS66.ge HI0.out) HB.out) hb); replace HI0 := Ext.a (IsS66.below (IsS66.go HI0.out) hb); (try clear hb ho0); obtain ⟨Ao6, co6, eo6⟩ := Kd.R_slice HO341.out; subst eo6) | ((with_reducible refine gate_callee (f := 32) rfl ?_); refine Ext.gs (some 8) rfl rfl Try.func32 #[.pointer (some ⟨g, 0, none⟩), .slice Ao6 t339.length co6] rfl ?_; (with_reducible refine (terrierref20_out_add.calls g s0_0 s0_1 _ _ t339 t342 t343 w _ ?side1 ?side2 ?side3 ?side4 A4.out).mono ?_); (case side1 => refine IsS66.now (wF := wS) ?_; repeat (first | (with_reducible first | exact HI0.out | apply IsS66.alloc | apply IsS66.drewN | apply IsS66.drew | apply IsS66.set_1) | exact HI0.out)); (case side2 => exact Ext.s1 (IsS66.ge HI0.out) HB.out); (case side3 => exact Ext.nC (Kd.R_reads' HO341.out).2.2); (case side4 => exact (Kd.R_reads' HO341.out).2.1); rintro e w7 ⟨rfl, hi, hb⟩; refine ⟨_, rfl, ?_⟩; replace HB := Ext.a (hb); replace HI0 := Ext.a (IsS66.then (IsS66.go HI0.out) hi); clear HO341; (try clear hb hi)))
 first | go_end0 | ((try simp only [Exit.inBlock, Exit.then]); refine bodyPost_ret (results_none rfl _ _ _) rfl ?_)
 exact ⟨by first | rfl | (simp [errW_none, errW_some] <;> rfl) | (simp [*, errW_none, errW_some] <;> rfl), by exact IsS66.go HI0.out, by exact Ext.s1 (IsS66.ge HI0.out) HB.out⟩



/-! ### terrierref20_out_flag: function 29 -/
def terrierref20_out_flag.f (s0_0 : List Int) (s0_1 : Bool) (a1 : Bool) : Option (List Int × Bool) := if a1 = true then ((terrierref20_out_add.f s0_0 s0_1 (([1] : List Int))).bind fun bt347 => (some (bt347.1, bt347.2))) else ((terrierref20_out_add.f s0_0 s0_1 (([0] : List Int))).bind fun bt352 => (some (bt352.1, bt352.2)))
set_option maxHeartbeats 8000000 in
set_option maxRecDepth 100000 in
theorem terrierref20_out_flag.calls (g : Nat) (s0_0 : List Int) (s0_1 : Bool) (a1 : Bool) (r1 : List Int) (r2 : Bool) (w wS : World) (hI : IsS66 w wS wS g s0_0 s0_1) (hB : Below w.heap.size w wS) (h : terrierref20_out_flag.f s0_0 s0_1 a1 = some (r1, r2)) :
  Calls Try.prog 29 #[.pointer (some ⟨g, 0, none⟩), .bool a1] wS fun e w' => e = .returned (.tuple #[]) ∧ IsS66 w wS w' g r1 r2 ∧ Below w.heap.size w w' := by
 have HI0 := Aside0.mk hI; have HB := Aside0.mk hB; clear hI hB; have H := h; unfold terrierref20_out_flag.f at H; clear h
 by_cases c3 : a1 = true
 ·
  subst c3; rw [if_pos rfl] at H; obtain ⟨y344, hy344⟩ : ∃ y_ : List Int, y_ = (([1] : List Int)) := ⟨_, rfl⟩
  replace H : ((terrierref20_out_add.f s0_0 s0_1 y344).bind fun bt347 => (some (bt347.1, bt347.2))) = some (r1, r2) := by first | (rw [hy344]; with_reducible exact H) | (have H2_ := (Option.bind_some _ _).symm.trans H; rw [hy344]; with_reducible exact H2_) | (have H2_ := (Option.bind_some _ _).symm.trans H; with_reducible exact H2_) | with_reducible exact H | (rw [hy344]; exact H) | exact H
  have Ny344 := Aside0.mk hy344; clear hy344; replace H := Option.bind_eq_some_iff.mp H; obtain ⟨⟨t347, t348⟩, A40, H⟩ := H; (try dsimp only at H); have A4 := Aside0.mk A40; clear A40; simp only [Option.some.injEq, Prod.mk.injEq] at H; obtain ⟨rfl, rfl⟩ := H
  go_enter Try.func29, Try.ntmps29
  go_wp2_with (first | ((with_reducible refine gate_dst (N := 6) rfl ?_); refine Kd.R_lit (Kd.int .u8) _ 5 ?hg (N := 6) ?hd (xs := ([1] : List Int)) (inner := [.int .u8 1]) (ok := fun _ => True) (okp := fun _ => True) ?hr ?hp (fun _ hk => hk) trivial (Below.refl _ _) (Nat.le_refl _) (by simp) ?_; (case hd => rfl); (case hg => rfl); (case hr => first | (go_simp; done) | (go_simp; rfl)); (case hp => exact (Reps.one (show Kd.M (Kd.int .u8) _ _ _ 1 [.int .u8 1] from rfl) (Reps.none _ _))); intro v345 w5 ho6 hb hg_ hnew_; clear hg_ hnew_; (first | rw [← Ny344.out] at ho6 | (simp only [Int.reduceToNat] at ho6; rw [← Ny344.out] at ho6)); have HO346 := Ext.a (Kd.R_lower ho6 (below_size (Ext.s1 (IsS66.ge HI0.out) HB.out))); replace HB := Ext.a (below_step (Ext.s1 (IsS66.ge HI0.out) HB.out) hb); replace HI0 := Ext.a (IsS66.below (IsS66.go HI0.out) hb); clear hb ho6; obtain ⟨Ao7, co7, eo7⟩ := Kd.R_slice HO346.out; subst eo7) | ((with_reducible refine gate_callee (f := 32) rfl ?_); refine Ext.gs (some 7) rfl rfl Try.func32 #[.pointer (some ⟨g, 0, none⟩), .slice Ao7 y344.length co7] rfl ?_; (with_reducible refine (terrierref20_out_add.calls g s0_0 s0_1 _ _ y344 t347 t348 w _ ?side1 ?side2 ?side3 ?side4 A4.out).mono ?_); (case side1 => refine IsS66.now (wF := wS) ?_; repeat (first | (with_reducible first | exact HI0.out | apply IsS66.alloc | apply IsS66.drewN | apply IsS66.drew | apply IsS66.set_1) | exact HI0.out)); (case side2 => exact Ext.s1 (IsS66.ge HI0.out) HB.out); (case side3 => exact Ext.nC (Kd.R_reads' HO346.out).2.2); (case side4 => exact (Kd.R_reads' HO346.out).2.1); rintro e w8 ⟨rfl, hi, hb⟩; refine ⟨_, rfl, ?_⟩; replace HB := Ext.a (hb); replace HI0 := Ext.a (IsS66.then (IsS66.go HI0.out) hi); clear HO346; (try clear hb hi)))
  first | go_end0 | ((try simp only [Exit.inBlock, Exit.then]); refine bodyPost_ret (results_none rfl _ _ _) rfl ?_)
  exact ⟨by first | rfl | (simp [errW_none, errW_some] <;> rfl) | (simp [*, errW_none, errW_some] <;> rfl), by exact IsS66.go HI0.out, by exact Ext.s1 (IsS66.ge HI0.out) HB.out⟩
 ·
  replace c3 := Bool.eq_false_iff.mpr c3; subst c3; rw [if_neg Bool.false_ne_true] at H; obtain ⟨y349, hy349⟩ : ∃ y_ : List Int, y_ = (([0] : List Int)) := ⟨_, rfl⟩
  replace H : ((terrierref20_out_add.f s0_0 s0_1 y349).bind fun bt352 => (some (bt352.1, bt352.2))) = some (r1, r2) := by first | (rw [hy349]; with_reducible exact H) | (have H2_ := (Option.bind_some _ _).symm.trans H; rw [hy349]; with_reducible exact H2_) | (have H2_ := (Option.bind_some _ _).symm.trans H; with_reducible exact H2_) | with_reducible exact H | (rw [hy349]; exact H) | exact H
  have Ny349 := Aside0.mk hy349; clear hy349; replace H := Option.bind_eq_some_iff.mp H; obtain ⟨⟨t352, t353⟩, A90, H⟩ := H; (try dsimp only at H); have A9 := Aside0.mk A90; clear A90; simp only [Option.some.injEq, Prod.mk.injEq] at H; obtain ⟨rfl, rfl⟩ := H
  go_enter Try.func29, Try.ntmps29
  go_wp2_with (first | ((with_reducible refine gate_dst (N := 9) rfl ?_); refine Kd.R_lit (Kd.int .u8) _ 5 ?hg (N := 9) ?hd (xs := ([0] : List Int)) (inner := [.int .u8 0]) (ok := fun _ => True) (okp := fun _ => True) ?hr ?hp (fun _ hk => hk) trivial (Below.refl _ _) (Nat.le_refl _) (by simp) ?_; (case hd => rfl); (case hg => rfl); (case hr => first | (go_simp; done) | (go_simp; rfl)); (case hp => exact (Reps.one (show Kd.M (Kd.int .u8) _ _ _ 0 [.int .u8 0] from rfl) (Reps.none _ _))); intro v350 w10 ho11 hb hg_ hnew_; clear hg_ hnew_; (first | rw [← Ny349.out] at ho11 | (simp only [Int.reduceToNat] at ho11; rw [← Ny349.out] at ho11)); have HO351 := Ext.a (Kd.R_lower ho11 (below_size (Ext.s1 (IsS66.ge HI0.out) HB.out))); replace HB := Ext.a (below_step (Ext.s1 (IsS66.ge HI0.out) HB.out) hb); replace HI0 := Ext.a (IsS66.below (IsS66.go HI0.out) hb); clear hb ho11; obtain ⟨Ao12, co12, eo12⟩ := Kd.R_slice HO351.out; subst eo12) | ((with_reducible refine gate_callee (f := 32) rfl ?_); refine Ext.gs (some 10) rfl rfl Try.func32 #[.pointer (some ⟨g, 0, none⟩), .slice Ao12 y349.length co12] rfl ?_; (with_reducible refine (terrierref20_out_add.calls g s0_0 s0_1 _ _ y349 t352 t353 w _ ?side1 ?side2 ?side3 ?side4 A9.out).mono ?_); (case side1 => refine IsS66.now (wF := wS) ?_; repeat (first | (with_reducible first | exact HI0.out | apply IsS66.alloc | apply IsS66.drewN | apply IsS66.drew | apply IsS66.set_1) | exact HI0.out)); (case side2 => exact Ext.s1 (IsS66.ge HI0.out) HB.out); (case side3 => exact Ext.nC (Kd.R_reads' HO351.out).2.2); (case side4 => exact (Kd.R_reads' HO351.out).2.1); rintro e w13 ⟨rfl, hi, hb⟩; refine ⟨_, rfl, ?_⟩; replace HB := Ext.a (hb); replace HI0 := Ext.a (IsS66.then (IsS66.go HI0.out) hi); clear HO351; (try clear hb hi)))
  first | go_end0 | ((try simp only [Exit.inBlock, Exit.then]); refine bodyPost_ret (results_none rfl _ _ _) rfl ?_)
  exact ⟨by first | rfl | (simp [errW_none, errW_some] <;> rfl) | (simp [*, errW_none, errW_some] <;> rfl), by exact IsS66.go HI0.out, by exact Ext.s1 (IsS66.ge HI0.out) HB.out⟩



/-! ### terrierref20_out_count: function 30 -/
def terrierref20_out_count.f (s0_0 : List Int) (s0_1 : Bool) (a1 : Int) : Option (List Int × Bool) := if a1 > 65535 then ((terrierref20_out_add.f s0_0 true (([(wrap64 (Int.tdiv a1 256)) % 256, (Int.tmod a1 256) % 256] : List Int))).bind fun bt357 => (some (bt357.1, bt357.2))) else ((terrierref20_out_add.f s0_0 s0_1 (([(wrap64 (Int.tdiv a1 256)) % 256, (Int.tmod a1 256) % 256] : List Int))).bind fun bt362 => (some (bt362.1, bt362.2)))
set_option maxHeartbeats 8000000 in
set_option maxRecDepth 100000 in
theorem terrierref20_out_count.calls (g : Nat) (s0_0 : List Int) (s0_1 : Bool) (a1 : Int) (r1 : List Int) (r2 : Bool) (w wS : World) (hI : IsS66 w wS wS g s0_0 s0_1) (hB : Below w.heap.size w wS) (h : terrierref20_out_count.f s0_0 s0_1 a1 = some (r1, r2)) :
  Calls Try.prog 30 #[.pointer (some ⟨g, 0, none⟩), .int .i64 a1] wS fun e w' => e = .returned (.tuple #[]) ∧ IsS66 w wS w' g r1 r2 ∧ Below w.heap.size w w' := by
 have HI0 := Aside0.mk hI; have HB := Aside0.mk hB; clear hI hB; have H := h; unfold terrierref20_out_count.f at H; clear h
 by_cases c3 : a1 > 65535
 ·
  rw [if_pos c3] at H; have c3b0 := decide_eq_true c3; clear c3; obtain ⟨y354, hy354⟩ : ∃ y_ : List Int, y_ = (([(wrap64 (Int.tdiv a1 256)) % 256, (Int.tmod a1 256) % 256] : List Int)) := ⟨_, rfl⟩
  replace H : ((terrierref20_out_add.f s0_0 true y354).bind fun bt357 => (some (bt357.1, bt357.2))) = some (r1, r2) := by first | (rw [hy354]; with_reducible exact H) | (have H2_ := (Option.bind_some _ _).symm.trans H; rw [hy354]; with_reducible exact H2_) | (have H2_ := (Option.bind_some _ _).symm.trans H; with_reducible exact H2_) | with_reducible exact H | (rw [hy354]; exact H) | exact H
  have Ny354 := Aside0.mk hy354; clear hy354; replace H := Option.bind_eq_some_iff.mp H; obtain ⟨⟨t357, t358⟩, A40, H⟩ := H; (try dsimp only at H); have A4 := Aside0.mk A40; clear A40; simp only [Option.some.injEq, Prod.mk.injEq] at H; obtain ⟨rfl, rfl⟩ := H; obtain ⟨⟨vbz5, HGz5, hgz5, hoz5⟩, hfz5⟩ := HI0.out; have hcz5_1 := cellS66_1 HGz5; have hfz5_1 := blk_frozen HGz5 1; clear HGz5 hgz5 hoz5 hfz5
  go_enter Try.func30, Try.ntmps30
  go_wp2_with (first | ((with_reducible refine gate_dst (N := 16) rfl ?_); refine Kd.R_lit (Kd.int .u8) _ 5 ?hg (N := 16) ?hd (xs := ([(wrap64 (Int.tdiv a1 256)) % 256, (Int.tmod a1 256) % 256] : List Int)) (inner := [.int .u8 ((wrap64 (Int.tdiv a1 256)) % 256), .int .u8 ((Int.tmod a1 256) % 256)]) (ok := fun _ => True) (okp := fun _ => True) ?hr ?hp (fun _ hk => hk) trivial (Below.refl _ _) (Nat.le_refl _) (by simp) ?_; (case hd => rfl); (case hg => rfl); (case hr => first | (go_simp; done) | (go_simp; rfl)); (case hp => exact (Reps.one (show Kd.M (Kd.int .u8) _ _ _ ((wrap64 (Int.tdiv a1 256)) % 256) [.int .u8 ((wrap64 (Int.tdiv a1 256)) % 256)] from rfl) (Reps.one (show Kd.M (Kd.int .u8) _ _ _ ((Int.tmod a1 256) % 256) [.int .u8 ((Int.tmod a1 256) % 256)] from rfl) (Reps.none _ _)))); intro v355 w6 ho7 hb hg_ hnew_; clear hg_ hnew_; (first | rw [← Ny354.out] at ho7 | (simp only [Int.reduceToNat] at ho7; rw [← Ny354.out] at ho7)); have HO356 := Ext.a (Kd.R_lower ho7 (below_size (Ext.s1 (IsS66.ge HI0.out) HB.out))); replace HB := Ext.a (below_step (Ext.s1 (IsS66.ge HI0.out) HB.out) hb); replace HI0 := Ext.a (IsS66.below (show IsS66 w wS (wS.setCell ⟨g, 1, none⟩ (.bool true)) g s0_0 true from by exact IsS66.go HI0.out) hb); clear hb ho7; obtain ⟨Ao8, co8, eo8⟩ := Kd.R_slice HO356.out; subst eo8) | ((with_reducible refine gate_callee (f := 32) rfl ?_); refine Ext.gs (some 17) rfl rfl Try.func32 #[.pointer (some ⟨g, 0, none⟩), .slice Ao8 y354.length co8] rfl ?_; (with_reducible refine (terrierref20_out_add.calls g s0_0 true _ _ y354 t357 t358 w _ ?side1 ?side2 ?side3 ?side4 A4.out).mono ?_); (case side1 => refine IsS66.now (wF := wS) ?_; repeat (first | (with_reducible first | exact HI0.out | apply IsS66.alloc | apply IsS66.drewN | apply IsS66.drew | apply IsS66.set_1) | exact HI0.out)); (case side2 => exact Ext.s1 (IsS66.ge HI0.out) HB.out); (case side3 => exact Ext.nC (Kd.R_reads' HO356.out).2.2); (case side4 => exact (Kd.R_reads' HO356.out).2.1); rintro e w9 ⟨rfl, hi, hb⟩; refine ⟨_, rfl, ?_⟩; replace HB := Ext.a (hb); replace HI0 := Ext.a (IsS66.then (IsS66.go HI0.out) hi); clear HO356; (try clear hb hi)))
  first | go_end0 | ((try simp only [Exit.inBlock, Exit.then]); refine bodyPost_ret (results_none rfl _ _ _) rfl ?_)
  exact ⟨by first | rfl | (simp [errW_none, errW_some] <;> rfl) | (simp [*, errW_none, errW_some] <;> rfl), by exact IsS66.go HI0.out, by exact Ext.s1 (IsS66.ge HI0.out) HB.out⟩
 ·
  rw [if_neg c3] at H; have c3b0 := decide_eq_false c3; clear c3; obtain ⟨y359, hy359⟩ : ∃ y_ : List Int, y_ = (([(wrap64 (Int.tdiv a1 256)) % 256, (Int.tmod a1 256) % 256] : List Int)) := ⟨_, rfl⟩
  replace H : ((terrierref20_out_add.f s0_0 s0_1 y359).bind fun bt362 => (some (bt362.1, bt362.2))) = some (r1, r2) := by first | (rw [hy359]; with_reducible exact H) | (have H2_ := (Option.bind_some _ _).symm.trans H; rw [hy359]; with_reducible exact H2_) | (have H2_ := (Option.bind_some _ _).symm.trans H; with_reducible exact H2_) | with_reducible exact H | (rw [hy359]; exact H) | exact H
  have Ny359 := Aside0.mk hy359; clear hy359; replace H := Option.bind_eq_some_iff.mp H; obtain ⟨⟨t362, t363⟩, A100, H⟩ := H; (try dsimp only at H); have A10 := Aside0.mk A100; clear A100; simp only [Option.some.injEq, Prod.mk.injEq] at H; obtain ⟨rfl, rfl⟩ := H
  go_enter Try.func30, Try.ntmps30
  go_wp2_with (first | ((with_reducible refine gate_dst (N := 16) rfl ?_); refine Kd.R_lit (Kd.int .u8) _ 5 ?hg (N := 16) ?hd (xs := ([(wrap64 (Int.tdiv a1 256)) % 256, (Int.tmod a1 256) % 256] : List Int)) (inner := [.int .u8 ((wrap64 (Int.tdiv a1 256)) % 256), .int .u8 ((Int.tmod a1 256) % 256)]) (ok := fun _ => True) (okp := fun _ => True) ?hr ?hp (fun _ hk => hk) trivial (Below.refl _ _) (Nat.le_refl _) (by simp) ?_; (case hd => rfl); (case hg => rfl); (case hr => first | (go_simp; done) | (go_simp; rfl)); (case hp => exact (Reps.one (show Kd.M (Kd.int .u8) _ _ _ ((wrap64 (Int.tdiv a1 256)) % 256) [.int .u8 ((wrap64 (Int.tdiv a1 256)) % 256)] from rfl) (Reps.one (show Kd.M (Kd.int .u8) _ _ _ ((Int.tmod a1 256) % 256) [.int .u8 ((Int.tmod a1 256) % 256)] from rfl) (Reps.none _ _)))); intro v360 w11 ho12 hb hg_ hnew_; clear hg_ hnew_; (first | rw [← Ny359.out] at ho12 | (simp only [Int.reduceToNat] at ho12; rw [← Ny359.out] at ho12)); have HO361 := Ext.a (Kd.R_lower ho12 (below_size (Ext.s1 (IsS66.ge HI0.out) HB.out))); replace HB := Ext.a (below_step (Ext.s1 (IsS66.ge HI0.out) HB.out) hb); replace HI0 := Ext.a (IsS66.below (IsS66.go HI0.out) hb); clear hb ho12; obtain ⟨Ao13, co13, eo13⟩ := Kd.R_slice HO361.out; subst eo13) | ((with_reducible refine gate_callee (f := 32) rfl ?_); refine Ext.gs (some 17) rfl rfl Try.func32 #[.pointer (some ⟨g, 0, none⟩), .slice Ao13 y359.length co13] rfl ?_; (with_reducible refine (terrierref20_out_add.calls g s0_0 s0_1 _ _ y359 t362 t363 w _ ?side1 ?side2 ?side3 ?side4 A10.out).mono ?_); (case side1 => refine IsS66.now (wF := wS) ?_; repeat (first | (with_reducible first | exact HI0.out | apply IsS66.alloc | apply IsS66.drewN | apply IsS66.drew | apply IsS66.set_1) | exact HI0.out)); (case side2 => exact Ext.s1 (IsS66.ge HI0.out) HB.out); (case side3 => exact Ext.nC (Kd.R_reads' HO361.out).2.2); (case side4 => exact (Kd.R_reads' HO361.out).2.1); rintro e w14 ⟨rfl, hi, hb⟩; refine ⟨_, rfl, ?_⟩; replace HB := Ext.a (hb); replace HI0 := Ext.a (IsS66.then (IsS66.go HI0.out) hi); clear HO361; (try clear hb hi)))
  first | go_end0 | ((try simp only [Exit.inBlock, Exit.then]); refine bodyPost_ret (results_none rfl _ _ _) rfl ?_)
  exact ⟨by first | rfl | (simp [errW_none, errW_some] <;> rfl) | (simp [*, errW_none, errW_some] <;> rfl), by exact IsS66.go HI0.out, by exact Ext.s1 (IsS66.ge HI0.out) HB.out⟩



/-! ### terrierref20_out_text: function 31 -/
def terrierref20_out_text.f (s0_0 : List Int) (s0_1 : Bool) (l1 : List Int) : Option (List Int × Bool) := (terrierref20_out_count.f s0_0 s0_1 (l1.length : Int)).bind fun bt364 => ((terrierref20_out_add.f bt364.1 bt364.2 l1).bind fun bt366 => (some (bt366.1, bt366.2)))
set_option maxHeartbeats 8000000 in
set_option maxRecDepth 100000 in
theorem terrierref20_out_text.calls (g : Nat) (s0_0 : List Int) (s0_1 : Bool) (A1 : Option Addr) (c1 : Nat) (l1 : List Int) (r1 : List Int) (r2 : Bool) (w wS : World) (hI : IsS66 w wS wS g s0_0 s0_1) (hB : Below w.heap.size w wS) (hr1 : Kd.C (Kd.int .u8) w A1 l1.length l1) (hc1 : l1.length ≤ c1) (h : terrierref20_out_text.f s0_0 s0_1 l1 = some (r1, r2)) :
  Calls Try.prog 31 #[.pointer (some ⟨g, 0, none⟩), .slice A1 l1.length c1] wS fun e w' => e = .returned (.tuple #[]) ∧ IsS66 w wS w' g r1 r2 ∧ Below w.heap.size w w' := by
 have HR1 := Aside0.mk hr1; have HC1 := Aside0.mk hc1; clear hr1 hc1; have HI0 := Aside0.mk hI; have HB := Aside0.mk hB; clear hI hB; have H := h; unfold terrierref20_out_text.f at H; clear h; replace H := Option.bind_eq_some_iff.mp H; obtain ⟨⟨t364, t365⟩, A30, H⟩ := H; (try dsimp only at H); have A3 := Aside0.mk A30; clear A30; replace H := Option.bind_eq_some_iff.mp H; obtain ⟨⟨t366, t367⟩, A40, H⟩ := H; (try dsimp only at H); have A4 := Aside0.mk A40; clear A40; simp only [Option.some.injEq, Prod.mk.injEq] at H; obtain ⟨rfl, rfl⟩ := H
 go_enter Try.func31, Try.ntmps31
 go_wp2_with (first | ((with_reducible refine gate_callee (f := 30) rfl ?_); refine Ext.gs (some 7) rfl rfl Try.func30 #[.pointer (some ⟨g, 0, none⟩), .int .i64 (l1.length : Int)] rfl ?_; (with_reducible refine (terrierref20_out_count.calls g s0_0 s0_1 (l1.length : Int) t364 t365 w _ ?side1 ?side2 A3.out).mono ?_); (case side1 => refine IsS66.now (wF := wS) ?_; repeat (first | (with_reducible first | exact HI0.out | apply IsS66.alloc | apply IsS66.drewN | apply IsS66.drew | apply IsS66.set_1) | exact HI0.out)); (case side2 => exact Ext.s1 (IsS66.ge HI0.out) HB.out); rintro e w5 ⟨rfl, hi, hb⟩; refine ⟨_, rfl, ?_⟩; replace HB := Ext.a (hb); replace HI0 := Ext.a (IsS66.then (IsS66.go HI0.out) hi); (try clear hb hi)) | ((with_reducible refine gate_callee (f := 32) rfl ?_); refine Ext.gs (some 10) rfl rfl Try.func32 #[.pointer (some ⟨g, 0, none⟩), .slice A1 l1.length c1] rfl ?_; (with_reducible refine (terrierref20_out_add.calls g t364 t365 _ _ l1 t366 t367 w _ ?side1 ?side2 ?side3 ?side4 A4.out).mono ?_); (case side1 => refine IsS66.now (wF := wS) ?_; repeat (first | (with_reducible first | exact HI0.out | apply IsS66.alloc | apply IsS66.drewN | apply IsS66.drew | apply IsS66.set_1) | exact HI0.out)); (case side2 => exact Ext.s1 (IsS66.ge HI0.out) HB.out); (case side3 => first | exact Ext.kC HR1.out HB.out | exact Ext.nC HR1.out); (case side4 => exact HC1.out); rintro e w6 ⟨rfl, hi, hb⟩; refine ⟨_, rfl, ?_⟩; replace HB := Ext.a (hb); replace HI0 := Ext.a (IsS66.then (IsS66.go HI0.out) hi); (try clear hb hi)))
 first | go_end0 | ((try simp only [Exit.inBlock, Exit.then]); refine bodyPost_ret (results_none rfl _ _ _) rfl ?_)
 exact ⟨by first | rfl | (simp [errW_none, errW_some] <;> rfl) | (simp [*, errW_none, errW_some] <;> rfl), by exact IsS66.go HI0.out, by exact Ext.s1 (IsS66.ge HI0.out) HB.out⟩

end Go.Proofs.Ytlhjdmpclfhoeaa.PJ
