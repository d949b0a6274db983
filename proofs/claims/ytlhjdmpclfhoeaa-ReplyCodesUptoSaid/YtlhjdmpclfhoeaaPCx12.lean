-- Written by wip/printx.py, a program of this work over the kit's print, for this claim.
import Derived.Test.YtlhjdmpclfhoeaaPCx0
import Derived.Test.YtlhjdmpclfhoeaaPCx10
namespace Go.Proofs.Ytlhjdmpclfhoeaa.PC
open Go.RowKit Go.Proofs.YtlhjdmpclfhoeaaW.PrintWords Go.Proofs.YtlhjdmpclfhoeaaW.PrintLast Go.Proofs.YtlhjdmpclfhoeaaW.PrintMore
attribute [local go_sem] max2_int min2_int max_two min_two max_three min_three max_four min_four   -- for this text's walks alone
attribute [local go_sem] Ext.pick_u8 Ext.pick_u32 Ext.pick_u64
set_option linter.unusedVariables false
set_option linter.unusedSimpArgs false



/-! ### terrierref20_out_count: function 30 -/
def terrierref20_out_count.f (s0_0 : List Int) (s0_1 : Bool) (a1 : Int) : Option (List Int × Bool) := if a1 > 65535 then ((terrierref20_out_add.f s0_0 true (([(wrap64 (Int.tdiv a1 256)) % 256, (Int.tmod a1 256) % 256] : List Int))).bind fun bt328 => (some (bt328.1, bt328.2))) else ((terrierref20_out_add.f s0_0 s0_1 (([(wrap64 (Int.tdiv a1 256)) % 256, (Int.tmod a1 256) % 256] : List Int))).bind fun bt333 => (some (bt333.1, bt333.2)))
set_option maxHeartbeats 8000000 in
set_option maxRecDepth 100000 in
theorem terrierref20_out_count.calls (g : Nat) (s0_0 : List Int) (s0_1 : Bool) (a1 : Int) (r1 : List Int) (r2 : Bool) (w wS : World) (hI : IsS66 w wS wS g s0_0 s0_1) (hB : Below w.heap.size w wS) (h : terrierref20_out_count.f s0_0 s0_1 a1 = some (r1, r2)) :
  Calls Try.prog 30 #[.pointer (some ⟨g, 0, none⟩), .int .i64 a1] wS fun e w' => e = .returned (.tuple #[]) ∧ IsS66 w wS w' g r1 r2 ∧ Below w.heap.size w w' := by
 have HI0 := Aside0.mk hI; have HB := Aside0.mk hB; clear hI hB; have H := h; unfold terrierref20_out_count.f at H; clear h
 by_cases c3 : a1 > 65535
 ·
  rw [if_pos c3] at H; have c3b0 := decide_eq_true c3; clear c3; obtain ⟨y325, hy325⟩ : ∃ y_ : List Int, y_ = (([(wrap64 (Int.tdiv a1 256)) % 256, (Int.tmod a1 256) % 256] : List Int)) := ⟨_, rfl⟩
  replace H : ((terrierref20_out_add.f s0_0 true y325).bind fun bt328 => (some (bt328.1, bt328.2))) = some (r1, r2) := by first | (rw [hy325]; with_reducible exact H) | (have H2_ := (Option.bind_some _ _).symm.trans H; rw [hy325]; with_reducible exact H2_) | (have H2_ := (Option.bind_some _ _).symm.trans H; with_reducible exact H2_) | with_reducible exact H | (rw [hy325]; exact H) | exact H
  have Ny325 := Aside0.mk hy325; clear hy325; replace H := Option.bind_eq_some_iff.mp H; obtain ⟨⟨t328, t329⟩, A40, H⟩ := H; (try dsimp only at H); have A4 := Aside0.mk A40; clear A40; simp only [Option.some.injEq, Prod.mk.injEq] at H; obtain ⟨rfl, rfl⟩ := H; obtain ⟨⟨vbz5, HGz5, hgz5, hoz5⟩, hfz5⟩ := HI0.out; have hcz5_1 := cellS66_1 HGz5; have hfz5_1 := blk_frozen HGz5 1; clear HGz5 hgz5 hoz5 hfz5
  go_enter Try.func30, Try.ntmps30
  go_wp2_with (first | ((with_reducible refine gate_dst (N := 16) rfl ?_); refine Kd.R_lit (Kd.int .u8) _ 5 ?hg (N := 16) ?hd (xs := ([(wrap64 (Int.tdiv a1 256)) % 256, (Int.tmod a1 256) % 256] : List Int)) (inner := [.int .u8 ((wrap64 (Int.tdiv a1 256)) % 256), .int .u8 ((Int.tmod a1 256) % 256)]) (ok := fun _ => True) (okp := fun _ => True) ?hr ?hp (fun _ hk => hk) trivial (Below.refl _ _) (Nat.le_refl _) (by simp) ?_; (case hd => rfl); (case hg => rfl); (case hr => first | (go_simp; done) | (go_simp; rfl)); (case hp => exact (Reps.one (show Kd.M (Kd.int .u8) _ _ _ ((wrap64 (Int.tdiv a1 256)) % 256) [.int .u8 ((wrap64 (Int.tdiv a1 256)) % 256)] from rfl) (Reps.one (show Kd.M (Kd.int .u8) _ _ _ ((Int.tmod a1 256) % 256) [.int .u8 ((Int.tmod a1 256) % 256)] from rfl) (Reps.none _ _)))); intro v326 w6 ho7 hb hg_ hnew_; clear hg_ hnew_; (first | rw [← Ny325.out] at ho7 | (simp only [Int.reduceToNat] at ho7; rw [← Ny325.out] at ho7)); have HO327 := Ext.a (Kd.R_lower ho7 (below_size (Ext.s1 (IsS66.ge HI0.out) HB.out))); replace HB := Ext.a (below_step (Ext.s1 (IsS66.ge HI0.out) HB.out) hb); replace HI0 := Ext.a (IsS66.below (show IsS66 w wS (wS.setCell ⟨g, 1, none⟩ (.bool true)) g s0_0 true from by exact IsS66.go HI0.out) hb); clear hb ho7; obtain ⟨Ao8, co8, eo8⟩ := Kd.R_slice HO327.out; subst eo8) | ((with_reducible refine gate_callee (f := 32) rfl ?_); refine Ext.gs (some 17) rfl rfl Try.func32 #[.pointer (some ⟨g, 0, none⟩), .slice Ao8 y325.length co8] rfl ?_; (with_reducible refine (terrierref20_out_add.calls g s0_0 true _ _ y325 t328 t329 w _ ?side1 ?side2 ?side3 ?side4 A4.out).mono ?_); (case side1 => refine IsS66.now (wF := wS) ?_; repeat (first | (with_reducible first | exact HI0.out | apply IsS66.alloc | apply IsS66.drewN | apply IsS66.drew | apply IsS66.set_1) | exact HI0.out)); (case side2 => exact Ext.s1 (IsS66.ge HI0.out) HB.out); (case side3 => exact Ext.nC (Kd.R_reads' HO327.out).2.2); (case side4 => exact (Kd.R_reads' HO327.out).2.1); rintro e w9 ⟨rfl, hi, hb⟩; refine ⟨_, rfl, ?_⟩; replace HB := Ext.a (hb); replace HI0 := Ext.a (IsS66.then (IsS66.go HI0.out) hi); clear HO327; (try clear hb hi)))
  first | go_end0 | ((try simp only [Exit.inBlock, Exit.then]); refine bodyPost_ret (results_none rfl _ _ _) rfl ?_)
  exact ⟨by first | rfl | (simp [errW_none, errW_some] <;> rfl) | (simp [*, errW_none, errW_some] <;> rfl), by exact IsS66.go HI0.out, by exact Ext.s1 (IsS66.ge HI0.out) HB.out⟩
 ·
  rw [if_neg c3] at H; have c3b0 := decide_eq_false c3; clear c3; obtain ⟨y330, hy330⟩ : ∃ y_ : List Int, y_ = (([(wrap64 (Int.tdiv a1 256)) % 256, (Int.tmod a1 256) % 256] : List Int)) := ⟨_, rfl⟩
  replace H : ((terrierref20_out_add.f s0_0 s0_1 y330).bind fun bt333 => (some (bt333.1, bt333.2))) = some (r1, r2) := by first | (rw [hy330]; with_reducible exact H) | (have H2_ := (Option.bind_some _ _).symm.trans H; rw [hy330]; with_reducible exact H2_) | (have H2_ := (Option.bind_some _ _).symm.trans H; with_reducible exact H2_) | with_reducible exact H | (rw [hy330]; exact H) | exact H
  have Ny330 := Aside0.mk hy330; clear hy330; replace H := Option.bind_eq_some_iff.mp H; obtain ⟨⟨t333, t334⟩, A100, H⟩ := H; (try dsimp only at H); have A10 := Aside0.mk A100; clear A100; simp only [Option.some.injEq, Prod.mk.injEq] at H; obtain ⟨rfl, rfl⟩ := H
  go_enter Try.func30, Try.ntmps30
  go_wp2_with (first | ((with_reducible refine gate_dst (N := 16) rfl ?_); refine Kd.R_lit (Kd.int .u8) _ 5 ?hg (N := 16) ?hd (xs := ([(wrap64 (Int.tdiv a1 256)) % 256, (Int.tmod a1 256) % 256] : List Int)) (inner := [.int .u8 ((wrap64 (Int.tdiv a1 256)) % 256), .int .u8 ((Int.tmod a1 256) % 256)]) (ok := fun _ => True) (okp := fun _ => True) ?hr ?hp (fun _ hk => hk) trivial (Below.refl _ _) (Nat.le_refl _) (by simp) ?_; (case hd => rfl); (case hg => rfl); (case hr => first | (go_simp; done) | (go_simp; rfl)); (case hp => exact (Reps.one (show Kd.M (Kd.int .u8) _ _ _ ((wrap64 (Int.tdiv a1 256)) % 256) [.int .u8 ((wrap64 (Int.tdiv a1 256)) % 256)] from rfl) (Reps.one (show Kd.M (Kd.int .u8) _ _ _ ((Int.tmod a1 256) % 256) [.int .u8 ((Int.tmod a1 256) % 256)] from rfl) (Reps.none _ _)))); intro v331 w11 ho12 hb hg_ hnew_; clear hg_ hnew_; (first | rw [← Ny330.out] at ho12 | (simp only [Int.reduceToNat] at ho12; rw [← Ny330.out] at ho12)); have HO332 := Ext.a (Kd.R_lower ho12 (below_size (Ext.s1 (IsS66.ge HI0.out) HB.out))); replace HB := Ext.a (below_step (Ext.s1 (IsS66.ge HI0.out) HB.out) hb); replace HI0 := Ext.a (IsS66.below (IsS66.go HI0.out) hb); clear hb ho12; obtain ⟨Ao13, co13, eo13⟩ := Kd.R_slice HO332.out; subst eo13) | ((with_reducible refine gate_callee (f := 32) rfl ?_); refine Ext.gs (some 17) rfl rfl Try.func32 #[.pointer (some ⟨g, 0, none⟩), .slice Ao13 y330.length co13] rfl ?_; (with_reducible refine (terrierref20_out_add.calls g s0_0 s0_1 _ _ y330 t333 t334 w _ ?side1 ?side2 ?side3 ?side4 A10.out).mono ?_); (case side1 => refine IsS66.now (wF := wS) ?_; repeat (first | (with_reducible first | exact HI0.out | apply IsS66.alloc | apply IsS66.drewN | apply IsS66.drew | apply IsS66.set_1) | exact HI0.out)); (case side2 => exact Ext.s1 (IsS66.ge HI0.out) HB.out); (case side3 => exact Ext.nC (Kd.R_reads' HO332.out).2.2); (case side4 => exact (Kd.R_reads' HO332.out).2.1); rintro e w14 ⟨rfl, hi, hb⟩; refine ⟨_, rfl, ?_⟩; replace HB := Ext.a (hb); replace HI0 := Ext.a (IsS66.then (IsS66.go HI0.out) hi); clear HO332; (try clear hb hi)))
  first | go_end0 | ((try simp only [Exit.inBlock, Exit.then]); refine bodyPost_ret (results_none rfl _ _ _) rfl ?_)
  exact ⟨by first | rfl | (simp [errW_none, errW_some] <;> rfl) | (simp [*, errW_none, errW_some] <;> rfl), by exact IsS66.go HI0.out, by exact Ext.s1 (IsS66.ge HI0.out) HB.out⟩



/-! ### terrierref20_out_text: function 31 -/
def terrierref20_out_text.f (s0_0 : List Int) (s0_1 : Bool) (l1 : List Int) : Option (List Int × Bool) := (terrierref20_out_count.f s0_0 s0_1 (l1.length : Int)).bind fun bt335 => ((terrierref20_out_add.f bt335.1 bt335.2 l1).bind fun bt337 => (some (bt337.1, bt337.2)))
set_option maxHeartbeats 8000000 in
set_option maxRecDepth 100000 in
theorem terrierref20_out_text.calls (g : Nat) (s0_0 : List Int) (s0_1 : Bool) (A1 : Option Addr) (c1 : Nat) (l1 : List Int) (r1 : List Int) (r2 : Bool) (w wS : World) (hI : IsS66 w wS wS g s0_0 s0_1) (hB : Below w.heap.size w wS) (hr1 : Kd.C (Kd.int .u8) w A1 l1.length l1) (hc1 : l1.length ≤ c1) (h : terrierref20_out_text.f s0_0 s0_1 l1 = some (r1, r2)) :
  Calls Try.prog 31 #[.pointer (some ⟨g, 0, none⟩), .slice A1 l1.length c1] wS fun e w' => e = .returned (.tuple #[]) ∧ IsS66 w wS w' g r1 r2 ∧ Below w.heap.size w w' := by
 have HR1 := Aside0.mk hr1; have HC1 := Aside0.mk hc1; clear hr1 hc1; have HI0 := Aside0.mk hI; have HB := Aside0.mk hB; clear hI hB; have H := h; unfold terrierref20_out_text.f at H; clear h; replace H := Option.bind_eq_some_iff.mp H; obtain ⟨⟨t335, t336⟩, A30, H⟩ := H; (try dsimp only at H); have A3 := Aside0.mk A30; clear A30; replace H := Option.bind_eq_some_iff.mp H; obtain ⟨⟨t337, t338⟩, A40, H⟩ := H; (try dsimp only at H); have A4 := Aside0.mk A40; clear A40; simp only [Option.some.injEq, Prod.mk.injEq] at H; obtain ⟨rfl, rfl⟩ := H
 go_enter Try.func31, Try.ntmps31
 go_wp2_with (first | ((with_reducible refine gate_callee (f := 30) rfl ?_); refine Ext.gs (some 7) rfl rfl Try.func30 #[.pointer (some ⟨g, 0, none⟩), .int .i64 (l1.length : Int)] rfl ?_; (with_reducible refine (terrierref20_out_count.calls g s0_0 s0_1 (l1.length : Int) t335 t336 w _ ?side1 ?side2 A3.out).mono ?_); (case side1 => refine IsS66.now (wF := wS) ?_; repeat (first | (with_reducible first | exact HI0.out | apply IsS66.alloc | apply IsS66.drewN | apply IsS66.drew | apply IsS66.set_1) | exact HI0.out)); (case side2 => exact Ext.s1 (IsS66.ge HI0.out) HB.out); rintro e w5 ⟨rfl, hi, hb⟩; refine ⟨_, rfl, ?_⟩; replace HB := Ext.a (hb); replace HI0 := Ext.a (IsS66.then (IsS66.go HI0.out) hi); (try clear hb hi)) | ((with_reducible refine gate_callee (f := 32) rfl ?_); refine Ext.gs (some 10) rfl rfl Try.func32 #[.pointer (some ⟨g, 0, none⟩), .slice A1 l1.length c1] rfl ?_; (with_reducible refine (terrierref20_out_add.calls g t335 t336 _ _ l1 t337 t338 w _ ?side1 ?side2 ?side3 ?side4 A4.out).mono ?_); (case side1 => refine IsS66.now (wF := wS) ?_; repeat (first | (with_reducible first | exact HI0.out | apply IsS66.alloc | apply IsS66.drewN | apply IsS66.drew | apply IsS66.set_1) | exact HI0.out)); (case side2 => exact Ext.s1 (IsS66.ge HI0.out) HB.out); (case side3 => first | exact Ext.kC HR1.out HB.out | exact Ext.nC HR1.out); (case side4 => exact HC1.out); rintro e w6 ⟨rfl, hi, hb⟩; refine ⟨_, rfl, ?_⟩; replace HB := Ext.a (hb); replace HI0 := Ext.a (IsS66.then (IsS66.go HI0.out) hi); (try clear hb hi)))
 first | go_end0 | ((try simp only [Exit.inBlock, Exit.then]); refine bodyPost_ret (results_none rfl _ _ _) rfl ?_)
 exact ⟨by first | rfl | (simp [errW_none, errW_some] <;> rfl) | (simp [*, errW_none, errW_some] <;> rfl), by exact IsS66.go HI0.out, by exact Ext.s1 (IsS66.ge HI0.out) HB.out⟩



/-! ### terrierref20_out_kv: function 35 -/
def terrierref20_out_kv.l0 : Nat → (Int × Int × Int × Int) → Int → List Int → Bool → Option (List Int × Bool)
 | 0, _, _, _, _ => none
 | k + 1, x22, x23, x1000, x1001 => if x23 < 4 then (if 0 ≤ x23 then ((terrierref20_out_num.f k x1000 x1001 (Ext.ix4 x22 x23)).bind fun bt344 => (terrierref20_out_kv.l0 k x22 (wrap64 (x23 + 1)) bt344.1 bt344.2)) else (none)) else (some (x1000, x1001))
def terrierref20_out_kv.f (k : Nat) (s0_0 : List Int) (s0_1 : Bool) (l1_0 : List Int) (l1_1 : List Int) (a1_2 : Int) (a1_3 : Int) (a1_4 : Int) (a1_5 : Int) : Option (List Int × Bool) := (terrierref20_out_text.f s0_0 s0_1 l1_0).bind fun bt340 => ((terrierref20_out_text.f bt340.1 bt340.2 l1_1).bind fun bt342 => (terrierref20_out_kv.l0 k (a1_2, a1_3, a1_4, a1_5) 0 bt342.1 bt342.2))
theorem terrierref20_out_kv.mono_l : ∀ k, (∀ y0 y1 y2 y3, LeO (terrierref20_out_kv.l0 k y0 y1 y2 y3) (terrierref20_out_kv.l0 (k + 1) y0 y1 y2 y3))
 | 0 => fun _ _ _ _ r h => by simp [terrierref20_out_kv.l0] at h
 | k + 1 => by
  have ih0 := terrierref20_out_kv.mono_l k
  ·
   intro y0 y1 y2 y3
   unfold terrierref20_out_kv.l0
   repeat' first
   | (with_reducible exact ih0 _ _ _ _)
   | (with_reducible exact terrierref20_out_num.mono _ _ _ _)
   | (with_reducible exact LeO.refl _)
   | (with_reducible exact LeO.none _)
   | (with_reducible refine LeO.ite ?_ ?_)
   | (with_reducible refine LeO.bind ?_ (fun _ => ?_))
   | exact ih0 _ _ _ _
   | exact terrierref20_out_num.mono _ _ _ _
   | exact LeO.none _
   | refine LeO.ite ?_ ?_
   | refine LeO.bind ?_ (fun _ => ?_)
theorem terrierref20_out_kv.mono : ∀ a0 a1 a2 a3 a4 a5 a6 a7 k, LeO (terrierref20_out_kv.f k a0 a1 a2 a3 a4 a5 a6 a7) (terrierref20_out_kv.f (k + 1) a0 a1 a2 a3 a4 a5 a6 a7) := by
 intro a0 a1 a2 a3 a4 a5 a6 a7 k
 have ih0 := terrierref20_out_kv.mono_l k; unfold terrierref20_out_kv.f
 repeat' first
   | (with_reducible exact ih0 _ _ _ _)
   | (with_reducible exact terrierref20_out_num.mono _ _ _ _)
   | (with_reducible exact LeO.refl _)
   | (with_reducible exact LeO.none _)
   | (with_reducible refine LeO.ite ?_ ?_)
   | (with_reducible refine LeO.bind ?_ (fun _ => ?_))
   | exact ih0 _ _ _ _
   | exact terrierref20_out_num.mono _ _ _ _
   | exact LeO.none _
   | refine LeO.ite ?_ ?_
   | refine LeO.bind ?_ (fun _ => ?_)
set_option maxHeartbeats 8000000 in
set_option maxRecDepth 100000 in
theorem terrierref20_out_kv.calls (k : Nat) (g : Nat) (s0_0 : List Int) (s0_1 : Bool) (A1_0 : Option Addr) (c1_0 : Nat) (l1_0 : List Int) (A1_1 : Option Addr) (c1_1 : Nat) (l1_1 : List Int) (a1_2 : Int) (a1_3 : Int) (a1_4 : Int) (a1_5 : Int) (r1 : List Int) (r2 : Bool) (w wS : World) (hI : IsS66 w wS wS g s0_0 s0_1) (hB : Below w.heap.size w wS) (hr1_0 : Kd.C (Kd.int .u8) w A1_0 l1_0.length l1_0) (hc1_0 : l1_0.length ≤ c1_0) (hr1_1 : Kd.C (Kd.int .u8) w A1_1 l1_1.length l1_1) (hc1_1 : l1_1.length ≤ c1_1) (h : terrierref20_out_kv.f k s0_0 s0_1 l1_0 l1_1 a1_2 a1_3 a1_4 a1_5 = some (r1, r2)) :
  Calls Try.prog 35 #[.pointer (some ⟨g, 0, none⟩), .agg #[.slice A1_0 l1_0.length c1_0, .slice A1_1 l1_1.length c1_1, .int .i64 a1_2, .int .i64 a1_3, .int .i64 a1_4, .int .i64 a1_5]] wS fun e w' => e = .returned (.tuple #[]) ∧ IsS66 w wS w' g r1 r2 ∧ Below w.heap.size w w' := by
 have hu79 := Try.underlying79; have hu94 := Try.underlying94; have HR1_0 := Aside0.mk hr1_0; have HC1_0 := Aside0.mk hc1_0; clear hr1_0 hc1_0; have HR1_1 := Aside0.mk hr1_1; have HC1_1 := Aside0.mk hc1_1; clear hr1_1 hc1_1; have HI0 := Aside0.mk hI; have HB := Aside0.mk hB; clear hI hB; have H := h; unfold terrierref20_out_kv.f at H; clear h; replace H := Option.bind_eq_some_iff.mp H; obtain ⟨⟨t340, t341⟩, A30, H⟩ := H; (try dsimp only at H); have A3 := Aside0.mk A30; clear A30; replace H := Option.bind_eq_some_iff.mp H; obtain ⟨⟨t342, t343⟩, A40, H⟩ := H; (try dsimp only at H); have A4 := Aside0.mk A40; clear A40; have H' := Aside0.mk H; clear H
 go_enter Try.func35, Try.ntmps35
 go_wp2_with (first | ((with_reducible refine gate_dst (N := 3) rfl ?_); refine box_event ?hg (N := 3) ?hd (cs := #[.slice A1_0 l1_0.length c1_0, .slice A1_1 l1_1.length c1_1, .int .i64 a1_2, .int .i64 a1_3, .int .i64 a1_4, .int .i64 a1_5]) (t := 79) ?hr ?_; (case hd => rfl); (case hg => rfl); (case hr => first | (go_simp; done) | (go_simp; rfl)); intro gb339 hg w5 hbox hb; have BK339 := Ext.a (hbox); have GW339 := Ext.gw hg (below_size (Ext.s1 (IsS66.ge HI0.out) HB.out)); have GE339 := Ext.gw hg (below_size (Ext.s1 (IsS66.ge HI0.out) HB.out)); replace HB := Ext.a (below_step (Ext.s1 (IsS66.ge HI0.out) HB.out) hb); have GS339 := Ext.gw hg (show IsS66 w wS _ g s0_0 s0_1 from by exact IsS66.go HI0.out).2.1; have NB0_339 := Ext.nt hg (IsS66.lt (IsS66.go HI0.out)); have NB339_0 := Ext.ng hg (IsS66.lt (IsS66.go HI0.out)); replace HI0 := Ext.a (IsS66.below (IsS66.go HI0.out) hb); clear hb hbox hg; have hnb6 := NB339_0.out; have hnc6 := NB0_339.out; obtain ⟨hcz7_0, hcz7_1, hcz7_2, hcz7_3, hcz7_4, hcz7_5⟩ := Ext.cells6 BK339.out; obtain ⟨hfz7_0, hfz7_1, hfz7_2, hfz7_3, hfz7_4, hfz7_5⟩ := Ext.froz6 BK339.out) | ((with_reducible refine gate_callee (f := 31) rfl ?_); refine Ext.gs (some 9) rfl rfl Try.func31 #[.pointer (some ⟨g, 0, none⟩), .slice A1_0 l1_0.length c1_0] rfl ?_; (with_reducible refine (terrierref20_out_text.calls g s0_0 s0_1 _ _ l1_0 t340 t341 w _ ?side1 ?side2 ?side3 ?side4 A3.out).mono ?_); (case side1 => refine IsS66.now (wF := wS) ?_; exact IsS66.go HI0.out); (case side2 => exact Ext.s2 GE339.out (IsS66.ge HI0.out) HB.out); (case side3 => exact HR1_0.out); (case side4 => exact HC1_0.out); rintro e w8 ⟨rfl, hi, hb⟩; refine ⟨_, rfl, ?_⟩; replace HB := Ext.a (hb); replace HI0 := Ext.a (IsS66.then (by exact IsS66.go HI0.out) hi); replace BK339 := Ext.a (IsS66.blk hi (by exact BK339.out) NB339_0.out (by decide)); (try clear hb hi); obtain ⟨hcz9_0, hcz9_1, hcz9_2, hcz9_3, hcz9_4, hcz9_5⟩ := Ext.cells6 BK339.out; obtain ⟨hfz9_0, hfz9_1, hfz9_2, hfz9_3, hfz9_4, hfz9_5⟩ := Ext.froz6 BK339.out) | ((with_reducible refine gate_callee (f := 31) rfl ?_); refine Ext.gs (some 13) rfl rfl Try.func31 #[.pointer (some ⟨g, 0, none⟩), .slice A1_1 l1_1.length c1_1] rfl ?_; (with_reducible refine (terrierref20_out_text.calls g t340 t341 _ _ l1_1 t342 t343 w _ ?side1 ?side2 ?side3 ?side4 A4.out).mono ?_); (case side1 => refine IsS66.now (wF := wS) ?_; exact IsS66.go HI0.out); (case side2 => exact Ext.s2 GE339.out (IsS66.ge HI0.out) HB.out); (case side3 => exact HR1_1.out); (case side4 => exact HC1_1.out); rintro e w10 ⟨rfl, hi, hb⟩; refine ⟨_, rfl, ?_⟩; replace HB := Ext.a (hb); replace HI0 := Ext.a (IsS66.then (by exact IsS66.go HI0.out) hi); replace BK339 := Ext.a (IsS66.blk hi (by exact BK339.out) NB339_0.out (by decide)); (try clear hb hi); obtain ⟨hcz11_0, hcz11_1, hcz11_2, hcz11_3, hcz11_4, hcz11_5⟩ := Ext.cells6 BK339.out; obtain ⟨hfz11_0, hfz11_1, hfz11_2, hfz11_3, hfz11_4, hfz11_5⟩ := Ext.froz6 BK339.out))
 go_loopg [23] k (fun kq v23 w' => ∃ (x23_1 : Int) (x1000_1 : List Int) (x1001_1 : Bool), v23 = .int .i64 x23_1 ∧ Aside0 (terrierref20_out_kv.l0 kq (a1_2, a1_3, a1_4, a1_5) x23_1 x1000_1 x1001_1 = some (r1, r2)) ∧ Aside0 (kq ≤ k) ∧ Aside0 (w'.heap[gb339]? = some (.cells #[(.slice A1_0 l1_0.length c1_0), (.slice A1_1 l1_1.length c1_1), .int .i64 a1_2, .int .i64 a1_3, .int .i64 a1_4, .int .i64 a1_5] 79 (0, 0))) ∧ Aside0 (IsS66 w wS w' g x1000_1 x1001_1) ∧ Aside0 (Below w.heap.size w w'))
 case atStart => exact ⟨(0), (t342), (t343), (by first | rfl | (simp; done) | (simp [*]; done)), H', ⟨Nat.le_refl _⟩, ⟨by exact BK339.out⟩, ⟨by exact IsS66.go HI0.out⟩, ⟨by exact Ext.s2 GE339.out (IsS66.ge HI0.out) HB.out⟩⟩
 case round =>
  clear H'; (try clear c1 p2 c3 c6 hcz11_0 hcz11_1 hcz11_2 hcz11_3 hcz11_4 hcz11_5 hcz7_0 hcz7_1 hcz7_2 hcz7_3 hcz7_4 hcz7_5 hcz9_0 hcz9_1 hcz9_2 hcz9_3 hcz9_4 hcz9_5 hfz11_0 hfz11_1 hfz11_2 hfz11_3 hfz11_4 hfz11_5 hfz7_0 hfz7_1 hfz7_2 hfz7_3 hfz7_4 hfz7_5 hfz9_0 hfz9_1 hfz9_2 hfz9_3 hfz9_4 hfz9_5); obtain ⟨x23_1, x1000_1, x1001_1, rfl, HA, HK1, BK339, HI0, HB⟩ := hrel; cases gk with
  | zero => exact absurd HA.out (by simp [terrierref20_out_kv.l0])
  | succ k1 =>
   have H := HA.out; clear HA; simp only [terrierref20_out_kv.l0] at H
   by_cases c12 : x23_1 < 4
   ·
    rw [if_pos c12] at H; have c12b0 := decide_eq_true c12; clear c12
    by_cases c13 : 0 ≤ x23_1
    ·
     rw [if_pos c13] at H; have c13b0 := decide_eq_true c13; clear c13; have hxa14 := Ext.ix4_run Try.underlying94 Try.underlying2 info2 (a1_2, a1_3, a1_4, a1_5) x23_1 (by first | omega | exact of_decide_eq_true (by first | (with_reducible assumption) | assumption)) (by first | omega | exact of_decide_eq_true (by first | (with_reducible assumption) | assumption))
     try dsimp only at hxa14
     replace H := Option.bind_eq_some_iff.mp H; obtain ⟨⟨t344, t345⟩, A150, H⟩ := H; (try dsimp only at H); have A15 := Aside0.mk A150; clear A150; have H' := Aside0.mk H; clear H
     go_wp2_with (first | ((with_reducible refine gate_callee (f := 25) rfl ?_); refine Ext.gs (some 28) rfl rfl Try.func25 #[.pointer (some ⟨g, 0, none⟩), .int .i64 (Ext.ix4 (a1_2, a1_3, a1_4, a1_5) x23_1)] rfl ?_; (with_reducible refine (terrierref20_out_num.calls k1 g x1000_1 x1001_1 (Ext.ix4 (a1_2, a1_3, a1_4, a1_5) x23_1) t344 t345 w _ ?side1 ?side2 A15.out).mono ?_); (case side1 => refine IsS66.now (wF := wS) ?_; exact IsS66.go HI0.out); (case side2 => exact Ext.s2 GE339.out (IsS66.ge HI0.out) HB.out); rintro e w16 ⟨rfl, hi, hb⟩; refine ⟨_, rfl, ?_⟩; replace HB := Ext.a (hb); replace HI0 := Ext.a (IsS66.then (by exact IsS66.go HI0.out) hi); replace BK339 := Ext.a (IsS66.blk hi (by exact BK339.out) NB339_0.out (by decide)); (try clear hb hi)))
     go_roundg k1
     case measure => have := HK1.out; omega
     case rel => exact ⟨(wrap64 (x23_1 + 1)), (t344), (t345), (by first | rfl | (simp; done) | (simp [*]; done)), H', ⟨by have := HK1.out; omega⟩, ⟨by exact BK339.out⟩, ⟨by exact IsS66.go HI0.out⟩, ⟨by exact Ext.s2 GE339.out (IsS66.ge HI0.out) HB.out⟩⟩
    · rw [if_neg c13] at H; exact absurd H (by simp)
   ·
    rw [if_neg c12] at H; have c12b0 := decide_eq_false c12; clear c12; simp only [Option.some.injEq, Prod.mk.injEq] at H; obtain ⟨rfl, rfl⟩ := H
    go_wp2
    first | go_end0 | ((try simp only [Exit.inBlock, Exit.then]); refine bodyPost_ret (results_none rfl _ _ _) rfl ?_)
    exact ⟨by first | rfl | (simp [errW_none, errW_some] <;> rfl) | (simp [*, errW_none, errW_some] <;> rfl), by exact IsS66.go HI0.out, by exact Ext.s2 GE339.out (IsS66.ge HI0.out) HB.out⟩



/-! ### terrierref20_out_kvs: function 50 -/
def terrierref20_out_kvs.l0 : Nat → List (S79) → Int → Int → List Int → Bool → Option (List Int × Bool)
 | 0, _, _, _, _, _ => none
 | k + 1, x10, x11, x12, x1000, x1001 => if x12 < x11 then (if 0 ≤ x12 then (if x12 < (x10.length : Int) then ((terrierref20_out_kv.f k x1000 x1001 ((rd_T79 x10 x12).f0) ((rd_T79 x10 x12).f1) ((rd_T79 x10 x12).f2) ((rd_T79 x10 x12).f3) ((rd_T79 x10 x12).f4) ((rd_T79 x10 x12).f5)).bind fun bt350 => (terrierref20_out_kvs.l0 k x10 x11 (wrap64 (x12 + 1)) bt350.1 bt350.2)) else (none)) else (none)) else (some (x1000, x1001))
def terrierref20_out_kvs.f (k : Nat) (s0_0 : List Int) (s0_1 : Bool) (l1 : List (S79)) : Option (List Int × Bool) := (terrierref20_out_count.f s0_0 s0_1 (l1.length : Int)).bind fun bt346 => (terrierref20_out_kvs.l0 k l1 (l1.length : Int) 0 bt346.1 bt346.2)
theorem terrierref20_out_kvs.mono_l : ∀ k, (∀ y0 y1 y2 y3 y4, LeO (terrierref20_out_kvs.l0 k y0 y1 y2 y3 y4) (terrierref20_out_kvs.l0 (k + 1) y0 y1 y2 y3 y4))
 | 0 => fun _ _ _ _ _ r h => by simp [terrierref20_out_kvs.l0] at h
 | k + 1 => by
  have ih0 := terrierref20_out_kvs.mono_l k
  ·
   intro y0 y1 y2 y3 y4
   unfold terrierref20_out_kvs.l0
   repeat' first
   | (with_reducible exact ih0 _ _ _ _ _)
   | (with_reducible exact terrierref20_out_kv.mono _ _ _ _ _ _ _ _ _)
   | (with_reducible exact LeO.refl _)
   | (with_reducible exact LeO.none _)
   | (with_reducible refine LeO.ite ?_ ?_)
   | (with_reducible refine LeO.bind ?_ (fun _ => ?_))
   | exact ih0 _ _ _ _ _
   | exact terrierref20_out_kv.mono _ _ _ _ _ _ _ _ _
   | exact LeO.none _
   | refine LeO.ite ?_ ?_
   | refine LeO.bind ?_ (fun _ => ?_)
theorem terrierref20_out_kvs.mono : ∀ a0 a1 a2 k, LeO (terrierref20_out_kvs.f k a0 a1 a2) (terrierref20_out_kvs.f (k + 1) a0 a1 a2) := by
 intro a0 a1 a2 k
 have ih0 := terrierref20_out_kvs.mono_l k; unfold terrierref20_out_kvs.f
 repeat' first
   | (with_reducible exact ih0 _ _ _ _ _)
   | (with_reducible exact terrierref20_out_kv.mono _ _ _ _ _ _ _ _ _)
   | (with_reducible exact LeO.refl _)
   | (with_reducible exact LeO.none _)
   | (with_reducible refine LeO.ite ?_ ?_)
   | (with_reducible refine LeO.bind ?_ (fun _ => ?_))
   | exact ih0 _ _ _ _ _
   | exact terrierref20_out_kv.mono _ _ _ _ _ _ _ _ _
   | exact LeO.none _
   | refine LeO.ite ?_ ?_
   | refine LeO.bind ?_ (fun _ => ?_)
set_option maxHeartbeats 8000000 in
set_option maxRecDepth 100000 in
theorem terrierref20_out_kvs.calls (k : Nat) (g : Nat) (s0_0 : List Int) (s0_1 : Bool) (A1 : Option Addr) (c1 : Nat) (l1 : List (S79)) (r1 : List Int) (r2 : Bool) (w wS : World) (hI : IsS66 w wS wS g s0_0 s0_1) (hB : Below w.heap.size w wS) (hr1 : Kd.C k79 w A1 l1.length l1) (hc1 : l1.length ≤ c1) (h : terrierref20_out_kvs.f k s0_0 s0_1 l1 = some (r1, r2)) :
  Calls Try.prog 50 #[.pointer (some ⟨g, 0, none⟩), .slice A1 l1.length c1] wS fun e w' => e = .returned (.tuple #[]) ∧ IsS66 w wS w' g r1 r2 ∧ Below w.heap.size w w' := by
 have hu79 := Try.underlying79; have HR1 := Aside0.mk hr1; have HC1 := Aside0.mk hc1; clear hr1 hc1; have HI0 := Aside0.mk hI; have HB := Aside0.mk hB; clear hI hB; have H := h; unfold terrierref20_out_kvs.f at H; clear h; replace H := Option.bind_eq_some_iff.mp H; obtain ⟨⟨t346, t347⟩, A30, H⟩ := H; (try dsimp only at H); have A3 := Aside0.mk A30; clear A30; have H' := Aside0.mk H; clear H
 go_enter Try.func50, Try.ntmps50
 go_wp2_with (first | ((with_reducible refine gate_callee (f := 30) rfl ?_); refine Ext.gs (some 9) rfl rfl Try.func30 #[.pointer (some ⟨g, 0, none⟩), .int .i64 (l1.length : Int)] rfl ?_; (with_reducible refine (terrierref20_out_count.calls g s0_0 s0_1 (l1.length : Int) t346 t347 w _ ?side1 ?side2 A3.out).mono ?_); (case side1 => refine IsS66.now (wF := wS) ?_; repeat (first | (with_reducible first | exact HI0.out | apply IsS66.alloc | apply IsS66.drewN | apply IsS66.drew | apply IsS66.set_1) | exact HI0.out)); (case side2 => exact Ext.s1 (IsS66.ge HI0.out) HB.out); rintro e w4 ⟨rfl, hi, hb⟩; refine ⟨_, rfl, ?_⟩; replace HB := Ext.a (hb); replace HI0 := Ext.a (IsS66.then (IsS66.go HI0.out) hi); (try clear hb hi)))
 go_loopg [12] k (fun kq v12 w' => ∃ (x12_1 : Int) (x1000_1 : List Int) (x1001_1 : Bool), v12 = .int .i64 x12_1 ∧ Aside0 (terrierref20_out_kvs.l0 kq l1 (l1.length : Int) x12_1 x1000_1 x1001_1 = some (r1, r2)) ∧ Aside0 (kq ≤ k) ∧ Aside0 (IsS66 w wS w' g x1000_1 x1001_1) ∧ Aside0 (Below w.heap.size w w'))
 case atStart => exact ⟨(0), (t346), (t347), (by first | rfl | (simp; done) | (simp [*]; done)), H', ⟨Nat.le_refl _⟩, ⟨by exact IsS66.go HI0.out⟩, ⟨by exact Ext.s1 (IsS66.ge HI0.out) HB.out⟩⟩
 case round =>
  clear H'; (try clear c1 p2 c3); obtain ⟨x12_1, x1000_1, x1001_1, rfl, HA, HK1, HI0, HB⟩ := hrel; cases gk with
  | zero => exact absurd HA.out (by simp [terrierref20_out_kvs.l0])
  | succ k1 =>
   have H := HA.out; clear HA; simp only [terrierref20_out_kvs.l0] at H
   by_cases c5 : x12_1 < (l1.length : Int)
   ·
    rw [if_pos c5] at H; have c5b0 := decide_eq_true c5; clear c5
    by_cases c6 : 0 ≤ x12_1
    ·
     rw [if_pos c6] at H; have c6b0 := decide_eq_true c6; clear c6
     by_cases c7 : x12_1 < (l1.length : Int)
     ·
      rw [if_pos c7] at H; have c7b0 := decide_eq_true c7; clear c7; replace H := Option.bind_eq_some_iff.mp H; obtain ⟨⟨t350, t351⟩, A80, H⟩ := H; (try dsimp only at H); have A8 := Aside0.mk A80; clear A80; have H' := Aside0.mk H; clear H; have p348 : 0 ≤ (x12_1 : Int) := of_decide_eq_true (by first | (with_reducible assumption) | assumption); have q348 : x12_1 < (l1.length : Int) := of_decide_eq_true (by first | (with_reducible assumption) | assumption); obtain ⟨ad348, A348_0, c348_0, A348_1, c348_1, e348, hx348_0, hx348_1, hx348_2, hx348_3, hx348_4, hx348_5, hl348_0, hi348_0, hl348_1, hi348_1⟩ := at_T79 HR1.out x12_1 p348 q348; cases e348; replace hx348_0 := (HB.out.cell (World.block_lt_of_cell? w _ hx348_0)).trans hx348_0; replace hx348_1 := (HB.out.cell (World.block_lt_of_cell? w _ hx348_1)).trans hx348_1; replace hx348_2 := (HB.out.cell (World.block_lt_of_cell? w _ hx348_2)).trans hx348_2; replace hx348_3 := (HB.out.cell (World.block_lt_of_cell? w _ hx348_3)).trans hx348_3; replace hx348_4 := (HB.out.cell (World.block_lt_of_cell? w _ hx348_4)).trans hx348_4; replace hx348_5 := (HB.out.cell (World.block_lt_of_cell? w _ hx348_5)).trans hx348_5; have HR348_0 := Aside0.mk hi348_0; have HC348_0 := Aside0.mk hl348_0; clear hi348_0 hl348_0; have HR348_1 := Aside0.mk hi348_1; have HC348_1 := Aside0.mk hl348_1; clear hi348_1 hl348_1; replace p348 := eq_true p348; replace q348 := eq_true q348
      go_wp2_with (first | ((with_reducible refine gate_dst (N := 15) rfl ?_); refine Ext.struct_load (hgd := ?hg) (t := 79) (x := ?vx_15) (ho := ?ho) (cs := [.slice A348_0 ((rd_T79 l1 x12_1).f0).length c348_0, .slice A348_1 ((rd_T79 l1 x12_1).f1).length c348_1, .int .i64 ((rd_T79 l1 x12_1).f2), .int .i64 ((rd_T79 l1 x12_1).f3), .int .i64 ((rd_T79 l1 x12_1).f4), .int .i64 ((rd_T79 l1 x12_1).f5)]) (haddr := ?ha) Try.underlying79 rfl (by kernel_rfl) ⟨hx348_0, hx348_1, hx348_2, hx348_3, hx348_4, hx348_5, trivial⟩ ?_; (case ho => rfl); (case hg => rfl); (case ha => rfl)) | ((with_reducible refine gate_dst (N := 5) rfl ?_); refine Ext.alloc_event (hgd := ?hg) (N := 5) (_hd := ?hd) (t := 79) (ho := ?ho) info79 ?_; (case ho => rfl); (case hd => rfl); (case hg => rfl); intro gb349 hg w9 hbox hb; have BK349 := Ext.a (hbox); have GW349 := Ext.gw hg (below_size (Ext.s1 (IsS66.ge HI0.out) HB.out)); have GE349 := Ext.gw hg (below_size (Ext.s1 (IsS66.ge HI0.out) HB.out)); replace HB := Ext.a (below_step (Ext.s1 (IsS66.ge HI0.out) HB.out) hb); have GS349 := Ext.gw hg (show IsS66 w wS _ g x1000_1 x1001_1 from by exact IsS66.go HI0.out).2.1; have NB0_349 := Ext.nt hg (IsS66.lt (IsS66.go HI0.out)); have NB349_0 := Ext.ng hg (IsS66.lt (IsS66.go HI0.out)); replace HI0 := Ext.a (IsS66.below (IsS66.go HI0.out) hb); clear hb hbox hg; have hnb10 := NB349_0.out; have hnc10 := NB0_349.out; obtain ⟨hcz11_0, hcz11_1, hcz11_2, hcz11_3, hcz11_4, hcz11_5⟩ := Ext.cells6 BK349.out; obtain ⟨hfz11_0, hfz11_1, hfz11_2, hfz11_3, hfz11_4, hfz11_5⟩ := Ext.froz6 BK349.out) | ((with_reducible refine gate_store (t := 79) (p := 5) rfl ?_); refine Ext.struct_store (hgd := ?hg) (hN := ?hn) (t := 79) (p := .tmp 5) (x := ?vo_w12) (ho := ?ho) (cells := #[.slice A348_0 ((rd_T79 l1 x12_1).f0).length c348_0, .slice A348_1 ((rd_T79 l1 x12_1).f1).length c348_1, .int .i64 ((rd_T79 l1 x12_1).f2), .int .i64 ((rd_T79 l1 x12_1).f3), .int .i64 ((rd_T79 l1 x12_1).f4), .int .i64 ((rd_T79 l1 x12_1).f5)]) (haddr := ?ha) (hx := ?hx) BK349.out rfl (by kernel_rfl) rfl ?_; (case ho => rfl); (case hg => rfl); (case hn => rfl); (case ha => rfl); (case hx => first | rfl | (go_simp; done)); intro w12 hx_ hk_ hbl_; replace HI0 := Ext.a (IsS66.keepb HI0.out hk_ (Ext.Typ.of BK349.out) NB0_349.out GS349.out (by decide)); replace BK349 := Ext.a (hx_); replace HB := Ext.a (hbl_ _ _ HB.out GE349.out); clear hx_ hk_ hbl_; obtain ⟨hcz13_0, hcz13_1, hcz13_2, hcz13_3, hcz13_4, hcz13_5⟩ := Ext.cells6 BK349.out; obtain ⟨hfz13_0, hfz13_1, hfz13_2, hfz13_3, hfz13_4, hfz13_5⟩ := Ext.froz6 BK349.out) | ((with_reducible refine gate_dst (N := 17) rfl ?_); refine Ext.struct_load_blk (hgd := ?hg) (t := 79) (x := ?vx_17) (ho := ?ho) (haddr := ?ha) Try.underlying79 rfl (by kernel_rfl) BK349.out ?_; (case ho => rfl); (case hg => rfl); (case ha => rfl)) | ((with_reducible refine gate_callee (f := 35) rfl ?_); refine Ext.gs (some 18) rfl rfl Try.func35 #[.pointer (some ⟨g, 0, none⟩), .agg #[.slice A348_0 ((rd_T79 l1 x12_1).f0).length c348_0, .slice A348_1 ((rd_T79 l1 x12_1).f1).length c348_1, .int .i64 ((rd_T79 l1 x12_1).f2), .int .i64 ((rd_T79 l1 x12_1).f3), .int .i64 ((rd_T79 l1 x12_1).f4), .int .i64 ((rd_T79 l1 x12_1).f5)]] rfl ?_; (with_reducible refine (terrierref20_out_kv.calls k1 g x1000_1 x1001_1 _ _ ((rd_T79 l1 x12_1).f0) _ _ ((rd_T79 l1 x12_1).f1) ((rd_T79 l1 x12_1).f2) ((rd_T79 l1 x12_1).f3) ((rd_T79 l1 x12_1).f4) ((rd_T79 l1 x12_1).f5) t350 t351 w _ ?side1 ?side2 ?side3 ?side4 ?side5 ?side6 A8.out).mono ?_); (case side1 => refine IsS66.now (wF := wS) ?_; exact IsS66.go HI0.out); (case side2 => exact Ext.s2 GE349.out (IsS66.ge HI0.out) HB.out); (case side3 => exact HR348_0.out); (case side4 => exact HC348_0.out); (case side5 => exact HR348_1.out); (case side6 => exact HC348_1.out); rintro e w14 ⟨rfl, hi, hb⟩; refine ⟨_, rfl, ?_⟩; replace HB := Ext.a (hb); replace HI0 := Ext.a (IsS66.then (by exact IsS66.go HI0.out) hi); replace BK349 := Ext.a (IsS66.blk hi (by exact BK349.out) NB349_0.out (by decide)); (try clear hb hi)))
      go_roundg k1
      case measure => have := HK1.out; omega
      case rel => exact ⟨(wrap64 (x12_1 + 1)), (t350), (t351), (by first | rfl | (simp; done) | (simp [*]; done)), H', ⟨by have := HK1.out; omega⟩, ⟨by exact IsS66.go HI0.out⟩, ⟨by exact Ext.s2 GE349.out (IsS66.ge HI0.out) HB.out⟩⟩
     · rw [if_neg c7] at H; exact absurd H (by simp)
    · rw [if_neg c6] at H; exact absurd H (by simp)
   ·
    rw [if_neg c5] at H; have c5b0 := decide_eq_false c5; clear c5; simp only [Option.some.injEq, Prod.mk.injEq] at H; obtain ⟨rfl, rfl⟩ := H
    go_wp2
    first | go_end0 | ((try simp only [Exit.inBlock, Exit.then]); refine bodyPost_ret (results_none rfl _ _ _) rfl ?_)
    exact ⟨by first | rfl | (simp [errW_none, errW_some] <;> rfl) | (simp [*, errW_none, errW_some] <;> rfl), by exact IsS66.go HI0.out, by exact Ext.s1 (IsS66.ge HI0.out) HB.out⟩

end Go.Proofs.Ytlhjdmpclfhoeaa.PC
