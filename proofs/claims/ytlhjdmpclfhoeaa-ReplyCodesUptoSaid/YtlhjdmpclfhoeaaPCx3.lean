-- Written by wip/printx.py, a program of this work over the kit's print, for this claim.
import Derived.Test.YtlhjdmpclfhoeaaPCx0
import Derived.Test.YtlhjdmpclfhoeaaPCx1
import Derived.Test.YtlhjdmpclfhoeaaPCx2
namespace Go.Proofs.Ytlhjdmpclfhoeaa.PC
open Go.RowKit Go.Proofs.YtlhjdmpclfhoeaaW.PrintWords Go.Proofs.YtlhjdmpclfhoeaaW.PrintLast Go.Proofs.YtlhjdmpclfhoeaaW.PrintMore
attribute [local go_sem] max2_int min2_int max_two min_two max_three min_three max_four min_four   -- for this text's walks alone
attribute [local go_sem] Ext.pick_u8 Ext.pick_u32 Ext.pick_u64
set_option linter.unusedVariables false
set_option linter.unusedSimpArgs false



/-! ### reply_writer_flag: function 44 -/
def reply_writer_flag.f (s0_0 : List Int) (s0_1 : Bool) (a1 : Bool) : Option (List Int × Bool) := if a1 = true then ((reply_writer_small.f s0_0 s0_1 1).bind fun bt136 => (some (bt136.1, bt136.2))) else ((reply_writer_small.f s0_0 s0_1 0).bind fun bt138 => (some (bt138.1, bt138.2)))
set_option maxHeartbeats 8000000 in
set_option maxRecDepth 100000 in
theorem reply_writer_flag.calls (g : Nat) (s0_0 : List Int) (s0_1 : Bool) (a1 : Bool) (r1 : List Int) (r2 : Bool) (w wS : World) (hI : IsS62 w wS wS g s0_0 s0_1) (hB : Below w.heap.size w wS) (h : reply_writer_flag.f s0_0 s0_1 a1 = some (r1, r2)) :
  Calls Try.prog 44 #[.pointer (some ⟨g, 0, none⟩), .bool a1] wS fun e w' => e = .returned (.tuple #[]) ∧ IsS62 w wS w' g r1 r2 ∧ Below w.heap.size w w' := by
 have HI0 := Aside0.mk hI; have HB := Aside0.mk hB; clear hI hB; have H := h; unfold reply_writer_flag.f at H; clear h
 by_cases c3 : a1 = true
 ·
  subst c3; rw [if_pos rfl] at H; replace H := Option.bind_eq_some_iff.mp H; obtain ⟨⟨t136, t137⟩, A40, H⟩ := H; (try dsimp only at H); have A4 := Aside0.mk A40; clear A40; simp only [Option.some.injEq, Prod.mk.injEq] at H; obtain ⟨rfl, rfl⟩ := H
  go_enter Try.func44, Try.ntmps44
  go_wp2_with (first | ((with_reducible refine gate_callee (f := 41) rfl ?_); refine Ext.gs (some 6) rfl rfl Try.func41 #[.pointer (some ⟨g, 0, none⟩), .int .i64 1] rfl ?_; (with_reducible refine (reply_writer_small.calls g s0_0 s0_1 1 t136 t137 w _ ?side1 ?side2 A4.out).mono ?_); (case side1 => refine IsS62.now (wF := wS) ?_; repeat (first | (with_reducible first | exact HI0.out | apply IsS62.alloc | apply IsS62.drewN | apply IsS62.drew | apply IsS62.set_1) | exact HI0.out)); (case side2 => exact Ext.s1 (IsS62.ge HI0.out) HB.out); rintro e w5 ⟨rfl, hi, hb⟩; refine ⟨_, rfl, ?_⟩; replace HB := Ext.a (hb); replace HI0 := Ext.a (IsS62.then (IsS62.go HI0.out) hi); (try clear hb hi)))
  first | go_end0 | ((try simp only [Exit.inBlock, Exit.then]); refine bodyPost_ret (results_none rfl _ _ _) rfl ?_)
  exact ⟨by first | rfl | (simp [errW_none, errW_some] <;> rfl) | (simp [*, errW_none, errW_some] <;> rfl), by exact IsS62.go HI0.out, by exact Ext.s1 (IsS62.ge HI0.out) HB.out⟩
 ·
  replace c3 := Bool.eq_false_iff.mpr c3; subst c3; rw [if_neg Bool.false_ne_true] at H; replace H := Option.bind_eq_some_iff.mp H; obtain ⟨⟨t138, t139⟩, A60, H⟩ := H; (try dsimp only at H); have A6 := Aside0.mk A60; clear A60; simp only [Option.some.injEq, Prod.mk.injEq] at H; obtain ⟨rfl, rfl⟩ := H
  go_enter Try.func44, Try.ntmps44
  go_wp2_with (first | ((with_reducible refine gate_callee (f := 41) rfl ?_); refine Ext.gs (some 8) rfl rfl Try.func41 #[.pointer (some ⟨g, 0, none⟩), .int .i64 0] rfl ?_; (with_reducible refine (reply_writer_small.calls g s0_0 s0_1 0 t138 t139 w _ ?side1 ?side2 A6.out).mono ?_); (case side1 => refine IsS62.now (wF := wS) ?_; repeat (first | (with_reducible first | exact HI0.out | apply IsS62.alloc | apply IsS62.drewN | apply IsS62.drew | apply IsS62.set_1) | exact HI0.out)); (case side2 => exact Ext.s1 (IsS62.ge HI0.out) HB.out); rintro e w7 ⟨rfl, hi, hb⟩; refine ⟨_, rfl, ?_⟩; replace HB := Ext.a (hb); replace HI0 := Ext.a (IsS62.then (IsS62.go HI0.out) hi); (try clear hb hi)))
  first | go_end0 | ((try simp only [Exit.inBlock, Exit.then]); refine bodyPost_ret (results_none rfl _ _ _) rfl ?_)
  exact ⟨by first | rfl | (simp [errW_none, errW_some] <;> rfl) | (simp [*, errW_none, errW_some] <;> rfl), by exact IsS62.go HI0.out, by exact Ext.s1 (IsS62.ge HI0.out) HB.out⟩



/-! ### reply_writer_count: function 45 -/
def reply_writer_count.f (k : Nat) (s0_0 : List Int) (s0_1 : Bool) (a1 : Int) : Option (Bool × List Int × Bool) := if a1 > 65535 then (some (false, s0_0, true)) else ((reply_writer_put.f k s0_0 s0_1 (IntKind.u64.wrap (a1)) 2).bind fun bt140 => (some (true, bt140.1, bt140.2)))
theorem reply_writer_count.mono : ∀ a0 a1 a2 k, LeO (reply_writer_count.f k a0 a1 a2) (reply_writer_count.f (k + 1) a0 a1 a2) := by
 intro a0 a1 a2 k
 unfold reply_writer_count.f
 repeat' first
   | (with_reducible exact reply_writer_put.mono _ _ _ _ _)
   | (with_reducible exact LeO.refl _)
   | (with_reducible exact LeO.none _)
   | (with_reducible refine LeO.ite ?_ ?_)
   | (with_reducible refine LeO.bind ?_ (fun _ => ?_))
   | exact reply_writer_put.mono _ _ _ _ _
   | exact LeO.none _
   | refine LeO.ite ?_ ?_
   | refine LeO.bind ?_ (fun _ => ?_)
set_option maxHeartbeats 8000000 in
set_option maxRecDepth 100000 in
theorem reply_writer_count.calls (k : Nat) (g : Nat) (s0_0 : List Int) (s0_1 : Bool) (a1 : Int) (r1 : Bool) (r2 : List Int) (r3 : Bool) (w wS : World) (hI : IsS62 w wS wS g s0_0 s0_1) (hB : Below w.heap.size w wS) (h : reply_writer_count.f k s0_0 s0_1 a1 = some (r1, r2, r3)) :
  Calls Try.prog 45 #[.pointer (some ⟨g, 0, none⟩), .int .i64 a1] wS fun e w' => e = .returned (.bool r1) ∧ IsS62 w wS w' g r2 r3 ∧ Below w.heap.size w w' := by
 have HI0 := Aside0.mk hI; have HB := Aside0.mk hB; clear hI hB; have H := h; unfold reply_writer_count.f at H; clear h
 by_cases c3 : a1 > 65535
 ·
  rw [if_pos c3] at H; have c3b0 := decide_eq_true c3; clear c3; simp only [Option.some.injEq, Prod.mk.injEq] at H; obtain ⟨rfl, rfl, rfl⟩ := H; obtain ⟨⟨vbz4, HGz4, hgz4, hoz4⟩, hfz4⟩ := HI0.out; have hcz4_1 := cellS62_1 HGz4; have hfz4_1 := blk_frozen HGz4 1; clear HGz4 hgz4 hoz4 hfz4
  go_enter Try.func45, Try.ntmps45
  go_wp2
  go_ret
  exact ⟨by first | rfl | (simp [errW_none, errW_some] <;> rfl) | (simp [*, errW_none, errW_some] <;> rfl), by exact IsS62.go HI0.out, by exact Ext.s1 (IsS62.ge HI0.out) HB.out⟩
 ·
  rw [if_neg c3] at H; have c3b0 := decide_eq_false c3; clear c3; replace H := Option.bind_eq_some_iff.mp H; obtain ⟨⟨t140, t141⟩, A50, H⟩ := H; (try dsimp only at H); have A5 := Aside0.mk A50; clear A50; simp only [Option.some.injEq, Prod.mk.injEq] at H; obtain ⟨rfl, rfl, rfl⟩ := H
  go_enter Try.func45, Try.ntmps45
  go_wp2_with (first | ((with_reducible refine gate_callee (f := 47) rfl ?_); refine Ext.gs (some 13) rfl rfl Try.func47 #[.pointer (some ⟨g, 0, none⟩), .int .u64 (IntKind.u64.wrap (a1)), .int .i64 2] rfl ?_; (with_reducible refine (reply_writer_put.calls k g s0_0 s0_1 (IntKind.u64.wrap (a1)) 2 t140 t141 w _ ?side1 ?side2 A5.out).mono ?_); (case side1 => refine IsS62.now (wF := wS) ?_; repeat (first | (with_reducible first | exact HI0.out | apply IsS62.alloc | apply IsS62.drewN | apply IsS62.drew | apply IsS62.set_1) | exact HI0.out)); (case side2 => exact Ext.s1 (IsS62.ge HI0.out) HB.out); rintro e w6 ⟨rfl, hi, hb⟩; refine ⟨_, rfl, ?_⟩; replace HB := Ext.a (hb); replace HI0 := Ext.a (IsS62.then (IsS62.go HI0.out) hi); (try clear hb hi)))
  go_ret
  exact ⟨by first | rfl | (simp [errW_none, errW_some] <;> rfl) | (simp [*, errW_none, errW_some] <;> rfl), by exact IsS62.go HI0.out, by exact Ext.s1 (IsS62.ge HI0.out) HB.out⟩



/-! ### reply_writer_text: function 46 -/
def reply_writer_text.f (k : Nat) (s0_0 : List Int) (s0_1 : Bool) (l1 : List Int) : Option (List Int × Bool) := (reply_writer_count.f k s0_0 s0_1 (l1.length : Int)).bind fun bt142 => (if bt142.1 = true then (if bt142.2.1.length + l1.length < 140737488355328 then (some ((bt142.2.1 ++ l1), bt142.2.2)) else (none)) else (some (bt142.2.1, bt142.2.2)))
theorem reply_writer_text.mono : ∀ a0 a1 a2 k, LeO (reply_writer_text.f k a0 a1 a2) (reply_writer_text.f (k + 1) a0 a1 a2) := by
 intro a0 a1 a2 k
 unfold reply_writer_text.f
 repeat' first
   | (with_reducible exact reply_writer_count.mono _ _ _ _)
   | (with_reducible exact LeO.refl _)
   | (with_reducible exact LeO.none _)
   | (with_reducible refine LeO.ite ?_ ?_)
   | (with_reducible refine LeO.bind ?_ (fun _ => ?_))
   | exact reply_writer_count.mono _ _ _ _
   | exact LeO.none _
   | refine LeO.ite ?_ ?_
   | refine LeO.bind ?_ (fun _ => ?_)
set_option maxHeartbeats 8000000 in
set_option maxRecDepth 100000 in
theorem reply_writer_text.calls (k : Nat) (g : Nat) (s0_0 : List Int) (s0_1 : Bool) (A1 : Option Addr) (c1 : Nat) (l1 : List Int) (r1 : List Int) (r2 : Bool) (w wS : World) (hI : IsS62 w wS wS g s0_0 s0_1) (hB : Below w.heap.size w wS) (hr1 : Kd.C (Kd.int .u8) w A1 l1.length l1) (hc1 : l1.length ≤ c1) (h : reply_writer_text.f k s0_0 s0_1 l1 = some (r1, r2)) :
  Calls Try.prog 46 #[.pointer (some ⟨g, 0, none⟩), .slice A1 l1.length c1] wS fun e w' => e = .returned (.tuple #[]) ∧ IsS62 w wS w' g r1 r2 ∧ Below w.heap.size w w' := by
 have HR1 := Aside0.mk hr1; have HC1 := Aside0.mk hc1; clear hr1 hc1; have HI0 := Aside0.mk hI; have HB := Aside0.mk hB; clear hI hB; have H := h; unfold reply_writer_text.f at H; clear h; replace H := Option.bind_eq_some_iff.mp H; obtain ⟨⟨t142, t143, t144⟩, A30, H⟩ := H; (try dsimp only at H); have A3 := Aside0.mk A30; clear A30
 by_cases c4 : t142 = true
 ·
  subst c4; rw [if_pos rfl] at H
  by_cases c5 : t143.length + l1.length < 140737488355328
  ·
   rw [if_pos c5] at H; have LMc5 := Aside0.mk c5; clear c5; obtain ⟨y147, hy147⟩ : ∃ y_ : List Int, y_ = (t143 ++ l1) := ⟨_, rfl⟩
   replace H : (some (y147, t144)) = some (r1, r2) := by first | (rw [hy147]; with_reducible exact H) | (have H2_ := (Option.bind_some _ _).symm.trans H; rw [hy147]; with_reducible exact H2_) | (have H2_ := (Option.bind_some _ _).symm.trans H; with_reducible exact H2_) | with_reducible exact H | (rw [hy147]; exact H) | exact H
   have Ny147 := Aside0.mk hy147; clear hy147; simp only [Option.some.injEq, Prod.mk.injEq] at H; obtain ⟨rfl, rfl⟩ := H
   go_enter Try.func46, Try.ntmps46
   go_wp2_with (first | ((with_reducible refine gate_callee (f := 45) rfl ?_); refine Ext.gs (some 7) rfl rfl Try.func45 #[.pointer (some ⟨g, 0, none⟩), .int .i64 (l1.length : Int)] rfl ?_; (with_reducible refine (reply_writer_count.calls k g s0_0 s0_1 (l1.length : Int) true t143 t144 w _ ?side1 ?side2 A3.out).mono ?_); (case side1 => refine IsS62.now (wF := wS) ?_; repeat (first | (with_reducible first | exact HI0.out | apply IsS62.alloc | apply IsS62.drewN | apply IsS62.drew | apply IsS62.set_1) | exact HI0.out)); (case side2 => exact Ext.s1 (IsS62.ge HI0.out) HB.out); rintro e w6 ⟨rfl, hi, hb⟩; refine ⟨_, rfl, ?_⟩; replace HB := Ext.a (hb); replace HI0 := Ext.a (IsS62.then (IsS62.go HI0.out) hi); (try clear hb hi); obtain ⟨⟨v145, HGz7, hgz7, hoz7⟩, hfz7⟩ := HI0.out; have hcz7_0 := (blk_cell HGz7 0).trans rfl; have hcz7_1 := cellS62_1 HGz7; have hfz7_0 := blk_frozen HGz7 0; have hfz7_1 := blk_frozen HGz7 1; have HO146 := Aside0.mk hoz7; have HX0 := Aside0.mk HGz7; have GE0 := Aside0.mk hgz7; have GW0 := GE0; have HF0 := Aside0.mk hfz7; clear HGz7 hgz7 hoz7 hfz7 HI0) | ((with_reducible refine gate_builtin (b := .append) (xs := #[.tmp 12, .tmp 13]) rfl ?_); at_builtin; refine Kd.R_append_rows (Kd.int .u8) (w0 := w) w.heap.size rfl (.tmp 12) (.tmp 13) 36 5 (.int .u8 0) 1 rfl Try.underlying36 info5 rfl (by decide) (by omega) v145 t143 l1 _ _ _ (fun _ => True) (fun _ => False) rfl rfl ?aO ?aR (fun _ _ h => h) (fun _ h => h.elim) ?aF ?aB ?aS ?aL ?_; (case aR => first | exact Ext.kC HR1.out HB.out | exact Ext.nC HR1.out); (case aB => exact (Ext.s1 GE0.out HB.out)); (case aF => exact (fun _ _ => trivial)); (case aO => exact (Ext.nR HO146.out)); (case aS => exact (below_size (Ext.s1 GE0.out HB.out))); (case aL => have := LMc5.out; omega); intro v148 w8 ho hb hg hat; rw [← Ny147.out] at ho; replace HF0 := Ext.a (Ext.Fr.grown (Ext.fr HF0.out) (Ext.nR HO146.out) hg); replace HX0 := Ext.a (blk_grown HX0.out hg (Kd.R_ne HO146.out HX0.out (by decide))); replace HB := Ext.a (hb); have HO149 := Ext.a (ho); clear HO146; clear ho hb hg hat; obtain ⟨Ao9, co9, eo9⟩ := Kd.R_slice HO149.out; subst eo9; have hcz10_0 : w8.cell? ⟨g, 0, none⟩ = some (v145) := (blk_cell HX0.out 0).trans rfl; have hcz10_1 : w8.cell? ⟨g, 1, none⟩ = some (.bool t144) := (blk_cell HX0.out 1).trans rfl; have hfz10_0 := blk_frozen HX0.out 0; have hfz10_1 := blk_frozen HX0.out 1))
   first | go_end0 | ((try simp only [Exit.inBlock, Exit.then]); refine bodyPost_ret (results_none rfl _ _ _) rfl ?_)
   exact ⟨by first | rfl | (simp [errW_none, errW_some] <;> rfl) | (simp [*, errW_none, errW_some] <;> rfl), ⟨⟨_, (by refine blk_put (cs := #[v145, .bool t144]) ?_ 0 _ rfl; exact HX0.out), GE0.out, (Ext.nR (Kd.R_mono (Kd.R_far (p := ⟨g, 0, none⟩) (Kd.R_types HO149.out HX0.out (by decide)) (fun _ hk => hk.2) (.slice Ao9 y147.length co9)) (fun _ hk => trivial)))⟩, Ext.fr HF0.out⟩, by exact Ext.s1 GE0.out HB.out⟩
  · rw [if_neg c5] at H; exact absurd H (by simp)
 ·
  replace c4 := Bool.eq_false_iff.mpr c4; subst c4; rw [if_neg Bool.false_ne_true] at H; simp only [Option.some.injEq, Prod.mk.injEq] at H; obtain ⟨rfl, rfl⟩ := H
  go_enter Try.func46, Try.ntmps46
  go_wp2_with (first | ((with_reducible refine gate_callee (f := 45) rfl ?_); refine Ext.gs (some 7) rfl rfl Try.func45 #[.pointer (some ⟨g, 0, none⟩), .int .i64 (l1.length : Int)] rfl ?_; (with_reducible refine (reply_writer_count.calls k g s0_0 s0_1 (l1.length : Int) false t143 t144 w _ ?side1 ?side2 A3.out).mono ?_); (case side1 => refine IsS62.now (wF := wS) ?_; repeat (first | (with_reducible first | exact HI0.out | apply IsS62.alloc | apply IsS62.drewN | apply IsS62.drew | apply IsS62.set_1) | exact HI0.out)); (case side2 => exact Ext.s1 (IsS62.ge HI0.out) HB.out); rintro e w11 ⟨rfl, hi, hb⟩; refine ⟨_, rfl, ?_⟩; replace HB := Ext.a (hb); replace HI0 := Ext.a (IsS62.then (IsS62.go HI0.out) hi); (try clear hb hi)))
  first | go_end0 | ((try simp only [Exit.inBlock, Exit.then]); refine bodyPost_ret (results_none rfl _ _ _) rfl ?_)
  exact ⟨by first | rfl | (simp [errW_none, errW_some] <;> rfl) | (simp [*, errW_none, errW_some] <;> rfl), by exact IsS62.go HI0.out, by exact Ext.s1 (IsS62.ge HI0.out) HB.out⟩



/-! ### reply_writer_kv: function 51 -/
def reply_writer_kv.f (k : Nat) (s0_0 : List Int) (s0_1 : Bool) (l1_0 : List Int) (l1_1 : List Int) (a1_2 : Int) (a1_3 : Int) (a1_4 : Int) (a1_5 : Int) : Option (List Int × Bool) := (reply_writer_text.f k s0_0 s0_1 l1_0).bind fun bt151 => ((reply_writer_text.f k bt151.1 bt151.2 l1_1).bind fun bt153 => ((reply_writer_num.f k bt153.1 bt153.2 a1_2).bind fun bt155 => ((reply_writer_num.f k bt155.1 bt155.2 a1_3).bind fun bt157 => ((reply_writer_num.f k bt157.1 bt157.2 a1_4).bind fun bt159 => ((reply_writer_num.f k bt159.1 bt159.2 a1_5).bind fun bt161 => (some (bt161.1, bt161.2)))))))
theorem reply_writer_kv.mono : ∀ a0 a1 a2 a3 a4 a5 a6 a7 k, LeO (reply_writer_kv.f k a0 a1 a2 a3 a4 a5 a6 a7) (reply_writer_kv.f (k + 1) a0 a1 a2 a3 a4 a5 a6 a7) := by
 intro a0 a1 a2 a3 a4 a5 a6 a7 k
 unfold reply_writer_kv.f
 repeat' first
   | (with_reducible exact reply_writer_num.mono _ _ _ _)
   | (with_reducible exact reply_writer_text.mono _ _ _ _)
   | (with_reducible exact LeO.refl _)
   | (with_reducible exact LeO.none _)
   | (with_reducible refine LeO.ite ?_ ?_)
   | (with_reducible refine LeO.bind ?_ (fun _ => ?_))
   | exact reply_writer_num.mono _ _ _ _
   | exact reply_writer_text.mono _ _ _ _
   | exact LeO.none _
   | refine LeO.ite ?_ ?_
   | refine LeO.bind ?_ (fun _ => ?_)
set_option maxHeartbeats 8000000 in
set_option maxRecDepth 100000 in
theorem reply_writer_kv.calls (k : Nat) (g : Nat) (s0_0 : List Int) (s0_1 : Bool) (A1_0 : Option Addr) (c1_0 : Nat) (l1_0 : List Int) (A1_1 : Option Addr) (c1_1 : Nat) (l1_1 : List Int) (a1_2 : Int) (a1_3 : Int) (a1_4 : Int) (a1_5 : Int) (r1 : List Int) (r2 : Bool) (w wS : World) (hI : IsS62 w wS wS g s0_0 s0_1) (hB : Below w.heap.size w wS) (hr1_0 : Kd.C (Kd.int .u8) w A1_0 l1_0.length l1_0) (hc1_0 : l1_0.length ≤ c1_0) (hr1_1 : Kd.C (Kd.int .u8) w A1_1 l1_1.length l1_1) (hc1_1 : l1_1.length ≤ c1_1) (h : reply_writer_kv.f k s0_0 s0_1 l1_0 l1_1 a1_2 a1_3 a1_4 a1_5 = some (r1, r2)) :
  Calls Try.prog 51 #[.pointer (some ⟨g, 0, none⟩), .agg #[.slice A1_0 l1_0.length c1_0, .slice A1_1 l1_1.length c1_1, .int .i64 a1_2, .int .i64 a1_3, .int .i64 a1_4, .int .i64 a1_5]] wS fun e w' => e = .returned (.tuple #[]) ∧ IsS62 w wS w' g r1 r2 ∧ Below w.heap.size w w' := by
 have hu79 := Try.underlying79; have HR1_0 := Aside0.mk hr1_0; have HC1_0 := Aside0.mk hc1_0; clear hr1_0 hc1_0; have HR1_1 := Aside0.mk hr1_1; have HC1_1 := Aside0.mk hc1_1; clear hr1_1 hc1_1; have HI0 := Aside0.mk hI; have HB := Aside0.mk hB; clear hI hB; have H := h; unfold reply_writer_kv.f at H; clear h; replace H := Option.bind_eq_some_iff.mp H; obtain ⟨⟨t151, t152⟩, A30, H⟩ := H; (try dsimp only at H); have A3 := Aside0.mk A30; clear A30; replace H := Option.bind_eq_some_iff.mp H; obtain ⟨⟨t153, t154⟩, A40, H⟩ := H; (try dsimp only at H); have A4 := Aside0.mk A40; clear A40; replace H := Option.bind_eq_some_iff.mp H; obtain ⟨⟨t155, t156⟩, A50, H⟩ := H; (try dsimp only at H); have A5 := Aside0.mk A50; clear A50; replace H := Option.bind_eq_some_iff.mp H; obtain ⟨⟨t157, t158⟩, A60, H⟩ := H; (try dsimp only at H); have A6 := Aside0.mk A60; clear A60; replace H := Option.bind_eq_some_iff.mp H; obtain ⟨⟨t159, t160⟩, A70, H⟩ := H; (try dsimp only at H); have A7 := Aside0.mk A70; clear A70; replace H := Option.bind_eq_some_iff.mp H; obtain ⟨⟨t161, t162⟩, A80, H⟩ := H; (try dsimp only at H); have A8 := Aside0.mk A80; clear A80; simp only [Option.some.injEq, Prod.mk.injEq] at H; obtain ⟨rfl, rfl⟩ := H
 go_enter Try.func51, Try.ntmps51
 go_wp2_with (first | ((with_reducible refine gate_dst (N := 3) rfl ?_); refine box_event ?hg (N := 3) ?hd (cs := #[.slice A1_0 l1_0.length c1_0, .slice A1_1 l1_1.length c1_1, .int .i64 a1_2, .int .i64 a1_3, .int .i64 a1_4, .int .i64 a1_5]) (t := 79) ?hr ?_; (case hd => rfl); (case hg => rfl); (case hr => first | (go_simp; done) | (go_simp; rfl)); intro gb150 hg w9 hbox hb; have BK150 := Ext.a (hbox); have GW150 := Ext.gw hg (below_size (Ext.s1 (IsS62.ge HI0.out) HB.out)); have GE150 := Ext.gw hg (below_size (Ext.s1 (IsS62.ge HI0.out) HB.out)); replace HB := Ext.a (below_step (Ext.s1 (IsS62.ge HI0.out) HB.out) hb); have GS150 := Ext.gw hg (show IsS62 w wS _ g s0_0 s0_1 from by exact IsS62.go HI0.out).2.1; have NB0_150 := Ext.nt hg (IsS62.lt (IsS62.go HI0.out)); have NB150_0 := Ext.ng hg (IsS62.lt (IsS62.go HI0.out)); replace HI0 := Ext.a (IsS62.below (IsS62.go HI0.out) hb); clear hb hbox hg; have hnb10 := NB150_0.out; have hnc10 := NB0_150.out; obtain ⟨hcz11_0, hcz11_1, hcz11_2, hcz11_3, hcz11_4, hcz11_5⟩ := Ext.cells6 BK150.out; obtain ⟨hfz11_0, hfz11_1, hfz11_2, hfz11_3, hfz11_4, hfz11_5⟩ := Ext.froz6 BK150.out) | ((with_reducible refine gate_callee (f := 46) rfl ?_); refine Ext.gs (some 7) rfl rfl Try.func46 #[.pointer (some ⟨g, 0, none⟩), .slice A1_0 l1_0.length c1_0] rfl ?_; (with_reducible refine (reply_writer_text.calls k g s0_0 s0_1 _ _ l1_0 t151 t152 w _ ?side1 ?side2 ?side3 ?side4 A3.out).mono ?_); (case side1 => refine IsS62.now (wF := wS) ?_; exact IsS62.go HI0.out); (case side2 => exact Ext.s2 GE150.out (IsS62.ge HI0.out) HB.out); (case side3 => exact HR1_0.out); (case side4 => exact HC1_0.out); rintro e w12 ⟨rfl, hi, hb⟩; refine ⟨_, rfl, ?_⟩; replace HB := Ext.a (hb); replace HI0 := Ext.a (IsS62.then (by exact IsS62.go HI0.out) hi); replace BK150 := Ext.a (IsS62.blk hi (by exact BK150.out) NB150_0.out (by decide)); (try clear hb hi); obtain ⟨hcz13_0, hcz13_1, hcz13_2, hcz13_3, hcz13_4, hcz13_5⟩ := Ext.cells6 BK150.out; obtain ⟨hfz13_0, hfz13_1, hfz13_2, hfz13_3, hfz13_4, hfz13_5⟩ := Ext.froz6 BK150.out) | ((with_reducible refine gate_callee (f := 46) rfl ?_); refine Ext.gs (some 11) rfl rfl Try.func46 #[.pointer (some ⟨g, 0, none⟩), .slice A1_1 l1_1.length c1_1] rfl ?_; (with_reducible refine (reply_writer_text.calls k g t151 t152 _ _ l1_1 t153 t154 w _ ?side1 ?side2 ?side3 ?side4 A4.out).mono ?_); (case side1 => refine IsS62.now (wF := wS) ?_; exact IsS62.go HI0.out); (case side2 => exact Ext.s2 GE150.out (IsS62.ge HI0.out) HB.out); (case side3 => exact HR1_1.out); (case side4 => exact HC1_1.out); rintro e w14 ⟨rfl, hi, hb⟩; refine ⟨_, rfl, ?_⟩; replace HB := Ext.a (hb); replace HI0 := Ext.a (IsS62.then (by exact IsS62.go HI0.out) hi); replace BK150 := Ext.a (IsS62.blk hi (by exact BK150.out) NB150_0.out (by decide)); (try clear hb hi); obtain ⟨hcz15_0, hcz15_1, hcz15_2, hcz15_3, hcz15_4, hcz15_5⟩ := Ext.cells6 BK150.out; obtain ⟨hfz15_0, hfz15_1, hfz15_2, hfz15_3, hfz15_4, hfz15_5⟩ := Ext.froz6 BK150.out) | ((with_reducible refine gate_callee (f := 42) rfl ?_); refine Ext.gs (some 15) rfl rfl Try.func42 #[.pointer (some ⟨g, 0, none⟩), .int .i64 a1_2] rfl ?_; (with_reducible refine (reply_writer_num.calls k g t153 t154 a1_2 t155 t156 w _ ?side1 ?side2 A5.out).mono ?_); (case side1 => refine IsS62.now (wF := wS) ?_; exact IsS62.go HI0.out); (case side2 => exact Ext.s2 GE150.out (IsS62.ge HI0.out) HB.out); rintro e w16 ⟨rfl, hi, hb⟩; refine ⟨_, rfl, ?_⟩; replace HB := Ext.a (hb); replace HI0 := Ext.a (IsS62.then (by exact IsS62.go HI0.out) hi); replace BK150 := Ext.a (IsS62.blk hi (by exact BK150.out) NB150_0.out (by decide)); (try clear hb hi); obtain ⟨hcz17_0, hcz17_1, hcz17_2, hcz17_3, hcz17_4, hcz17_5⟩ := Ext.cells6 BK150.out; obtain ⟨hfz17_0, hfz17_1, hfz17_2, hfz17_3, hfz17_4, hfz17_5⟩ := Ext.froz6 BK150.out) | ((with_reducible refine gate_callee (f := 42) rfl ?_); refine Ext.gs (some 19) rfl rfl Try.func42 #[.pointer (some ⟨g, 0, none⟩), .int .i64 a1_3] rfl ?_; (with_reducible refine (reply_writer_num.calls k g t155 t156 a1_3 t157 t158 w _ ?side1 ?side2 A6.out).mono ?_); (case side1 => refine IsS62.now (wF := wS) ?_; exact IsS62.go HI0.out); (case side2 => exact Ext.s2 GE150.out (IsS62.ge HI0.out) HB.out); rintro e w18 ⟨rfl, hi, hb⟩; refine ⟨_, rfl, ?_⟩; replace HB := Ext.a (hb); replace HI0 := Ext.a (IsS62.then (by exact IsS62.go HI0.out) hi); replace BK150 := Ext.a (IsS62.blk hi (by exact BK150.out) NB150_0.out (by decide)); (try clear hb hi); obtain ⟨hcz19_0, hcz19_1, hcz19_2, hcz19_3, hcz19_4, hcz19_5⟩ := Ext.cells6 BK150.out; obtain ⟨hfz19_0, hfz19_1, hfz19_2, hfz19_3, hfz19_4, hfz19_5⟩ := Ext.froz6 BK150.out) | ((with_reducible refine gate_callee (f := 42) rfl ?_); refine Ext.gs (some 23) rfl rfl Try.func42 #[.pointer (some ⟨g, 0, none⟩), .int .i64 a1_4] rfl ?_; (with_reducible refine (reply_writer_num.calls k g t157 t158 a1_4 t159 t160 w _ ?side1 ?side2 A7.out).mono ?_); (case side1 => refine IsS62.now (wF := wS) ?_; exact IsS62.go HI0.out); (case side2 => exact Ext.s2 GE150.out (IsS62.ge HI0.out) HB.out); rintro e w20 ⟨rfl, hi, hb⟩; refine ⟨_, rfl, ?_⟩; replace HB := Ext.a (hb); replace HI0 := Ext.a (IsS62.then (by exact IsS62.go HI0.out) hi); replace BK150 := Ext.a (IsS62.blk hi (by exact BK150.out) NB150_0.out (by decide)); (try clear hb hi); obtain ⟨hcz21_0, hcz21_1, hcz21_2, hcz21_3, hcz21_4, hcz21_5⟩ := Ext.cells6 BK150.out; obtain ⟨hfz21_0, hfz21_1, hfz21_2, hfz21_3, hfz21_4, hfz21_5⟩ := Ext.froz6 BK150.out) | ((with_reducible refine gate_callee (f := 42) rfl ?_); refine Ext.gs (some 27) rfl rfl Try.func42 #[.pointer (some ⟨g, 0, none⟩), .int .i64 a1_5] rfl ?_; (with_reducible refine (reply_writer_num.calls k g t159 t160 a1_5 t161 t162 w _ ?side1 ?side2 A8.out).mono ?_); (case side1 => refine IsS62.now (wF := wS) ?_; exact IsS62.go HI0.out); (case side2 => exact Ext.s2 GE150.out (IsS62.ge HI0.out) HB.out); rintro e w22 ⟨rfl, hi, hb⟩; refine ⟨_, rfl, ?_⟩; replace HB := Ext.a (hb); replace HI0 := Ext.a (IsS62.then (by exact IsS62.go HI0.out) hi); replace BK150 := Ext.a (IsS62.blk hi (by exact BK150.out) NB150_0.out (by decide)); (try clear hb hi)))
 first | go_end0 | ((try simp only [Exit.inBlock, Exit.then]); refine bodyPost_ret (results_none rfl _ _ _) rfl ?_)
 exact ⟨by first | rfl | (simp [errW_none, errW_some] <;> rfl) | (simp [*, errW_none, errW_some] <;> rfl), by exact IsS62.go HI0.out, by exact Ext.s2 GE150.out (IsS62.ge HI0.out) HB.out⟩



/-! ### reply_writer_kvs: function 61 -/
def reply_writer_kvs.l0 : Nat → List (S79) → Int → Int → List Int → Bool → Option (List Int × Bool)
 | 0, _, _, _, _, _ => none
 | k + 1, x10, x11, x12, x1000, x1001 => if x12 < x11 then (if 0 ≤ x12 then (if x12 < (x10.length : Int) then ((reply_writer_kv.f k x1000 x1001 ((rd_T79 x10 x12).f0) ((rd_T79 x10 x12).f1) ((rd_T79 x10 x12).f2) ((rd_T79 x10 x12).f3) ((rd_T79 x10 x12).f4) ((rd_T79 x10 x12).f5)).bind fun bt168 => (reply_writer_kvs.l0 k x10 x11 (wrap64 (x12 + 1)) bt168.1 bt168.2)) else (none)) else (none)) else (some (x1000, x1001))
def reply_writer_kvs.f (k : Nat) (s0_0 : List Int) (s0_1 : Bool) (l1 : List (S79)) : Option (List Int × Bool) := (reply_writer_count.f k s0_0 s0_1 (l1.length : Int)).bind fun bt163 => (if bt163.1 = true then (reply_writer_kvs.l0 k l1 (l1.length : Int) 0 bt163.2.1 bt163.2.2) else (some (bt163.2.1, bt163.2.2)))
theorem reply_writer_kvs.mono_l : ∀ k, (∀ y0 y1 y2 y3 y4, LeO (reply_writer_kvs.l0 k y0 y1 y2 y3 y4) (reply_writer_kvs.l0 (k + 1) y0 y1 y2 y3 y4))
 | 0 => fun _ _ _ _ _ r h => by simp [reply_writer_kvs.l0] at h
 | k + 1 => by
  have ih0 := reply_writer_kvs.mono_l k
  ·
   intro y0 y1 y2 y3 y4
   unfold reply_writer_kvs.l0
   repeat' first
   | (with_reducible exact ih0 _ _ _ _ _)
   | (with_reducible exact reply_writer_count.mono _ _ _ _)
   | (with_reducible exact reply_writer_kv.mono _ _ _ _ _ _ _ _ _)
   | (with_reducible exact LeO.refl _)
   | (with_reducible exact LeO.none _)
   | (with_reducible refine LeO.ite ?_ ?_)
   | (with_reducible refine LeO.bind ?_ (fun _ => ?_))
   | exact ih0 _ _ _ _ _
   | exact reply_writer_count.mono _ _ _ _
   | exact reply_writer_kv.mono _ _ _ _ _ _ _ _ _
   | exact LeO.none _
   | refine LeO.ite ?_ ?_
   | refine LeO.bind ?_ (fun _ => ?_)
theorem reply_writer_kvs.mono : ∀ a0 a1 a2 k, LeO (reply_writer_kvs.f k a0 a1 a2) (reply_writer_kvs.f (k + 1) a0 a1 a2) := by
 intro a0 a1 a2 k
 have ih0 := reply_writer_kvs.mono_l k; unfold reply_writer_kvs.f
 repeat' first
   | (with_reducible exact ih0 _ _ _ _ _)
   | (with_reducible exact reply_writer_count.mono _ _ _ _)
   | (with_reducible exact reply_writer_kv.mono _ _ _ _ _ _ _ _ _)
   | (with_reducible exact LeO.refl _)
   | (with_reducible exact LeO.none _)
   | (with_reducible refine LeO.ite ?_ ?_)
   | (with_reducible refine LeO.bind ?_ (fun _ => ?_))
   | exact ih0 _ _ _ _ _
   | exact reply_writer_count.mono _ _ _ _
   | exact reply_writer_kv.mono _ _ _ _ _ _ _ _ _
   | exact LeO.none _
   | refine LeO.ite ?_ ?_
   | refine LeO.bind ?_ (fun _ => ?_)
set_option maxHeartbeats 8000000 in
set_option maxRecDepth 100000 in
theorem reply_writer_kvs.calls (k : Nat) (g : Nat) (s0_0 : List Int) (s0_1 : Bool) (A1 : Option Addr) (c1 : Nat) (l1 : List (S79)) (r1 : List Int) (r2 : Bool) (w wS : World) (hI : IsS62 w wS wS g s0_0 s0_1) (hB : Below w.heap.size w wS) (hr1 : Kd.C k79 w A1 l1.length l1) (hc1 : l1.length ≤ c1) (h : reply_writer_kvs.f k s0_0 s0_1 l1 = some (r1, r2)) :
  Calls Try.prog 61 #[.pointer (some ⟨g, 0, none⟩), .slice A1 l1.length c1] wS fun e w' => e = .returned (.tuple #[]) ∧ IsS62 w wS w' g r1 r2 ∧ Below w.heap.size w w' := by
 have hu79 := Try.underlying79; have HR1 := Aside0.mk hr1; have HC1 := Aside0.mk hc1; clear hr1 hc1; have HI0 := Aside0.mk hI; have HB := Aside0.mk hB; clear hI hB; have H := h; unfold reply_writer_kvs.f at H; clear h; replace H := Option.bind_eq_some_iff.mp H; obtain ⟨⟨t163, t164, t165⟩, A30, H⟩ := H; (try dsimp only at H); have A3 := Aside0.mk A30; clear A30
 by_cases c4 : t163 = true
 ·
  subst c4; rw [if_pos rfl] at H; have H' := Aside0.mk H; clear H
  go_enter Try.func61, Try.ntmps61
  go_wp2_with (first | ((with_reducible refine gate_callee (f := 45) rfl ?_); refine Ext.gs (some 9) rfl rfl Try.func45 #[.pointer (some ⟨g, 0, none⟩), .int .i64 (l1.length : Int)] rfl ?_; (with_reducible refine (reply_writer_count.calls k g s0_0 s0_1 (l1.length : Int) true t164 t165 w _ ?side1 ?side2 A3.out).mono ?_); (case side1 => refine IsS62.now (wF := wS) ?_; repeat (first | (with_reducible first | exact HI0.out | apply IsS62.alloc | apply IsS62.drewN | apply IsS62.drew | apply IsS62.set_1) | exact HI0.out)); (case side2 => exact Ext.s1 (IsS62.ge HI0.out) HB.out); rintro e w5 ⟨rfl, hi, hb⟩; refine ⟨_, rfl, ?_⟩; replace HB := Ext.a (hb); replace HI0 := Ext.a (IsS62.then (IsS62.go HI0.out) hi); (try clear hb hi)))
  go_loopg [12] k (fun kq v12 w' => ∃ (x12_1 : Int) (x1000_1 : List Int) (x1001_1 : Bool), v12 = .int .i64 x12_1 ∧ Aside0 (reply_writer_kvs.l0 kq l1 (l1.length : Int) x12_1 x1000_1 x1001_1 = some (r1, r2)) ∧ Aside0 (kq ≤ k) ∧ Aside0 (IsS62 w wS w' g x1000_1 x1001_1) ∧ Aside0 (Below w.heap.size w w'))
  case atStart => exact ⟨(0), (t164), (t165), (by first | rfl | (simp; done) | (simp [*]; done)), H', ⟨Nat.le_refl _⟩, ⟨by exact IsS62.go HI0.out⟩, ⟨by exact Ext.s1 (IsS62.ge HI0.out) HB.out⟩⟩
  case round =>
   clear H'; (try clear c1 p2); obtain ⟨x12_1, x1000_1, x1001_1, rfl, HA, HK1, HI0, HB⟩ := hrel; cases gk with
   | zero => exact absurd HA.out (by simp [reply_writer_kvs.l0])
   | succ k1 =>
    have H := HA.out; clear HA; simp only [reply_writer_kvs.l0] at H
    by_cases c6 : x12_1 < (l1.length : Int)
    ·
     rw [if_pos c6] at H; have c6b0 := decide_eq_true c6; clear c6
     by_cases c7 : 0 ≤ x12_1
     ·
      rw [if_pos c7] at H; have c7b0 := decide_eq_true c7; clear c7
      by_cases c8 : x12_1 < (l1.length : Int)
      ·
       rw [if_pos c8] at H; have c8b0 := decide_eq_true c8; clear c8; replace H := Option.bind_eq_some_iff.mp H; obtain ⟨⟨t168, t169⟩, A90, H⟩ := H; (try dsimp only at H); have A9 := Aside0.mk A90; clear A90; have H' := Aside0.mk H; clear H; have p166 : 0 ≤ (x12_1 : Int) := of_decide_eq_true (by first | (with_reducible assumption) | assumption); have q166 : x12_1 < (l1.length : Int) := of_decide_eq_true (by first | (with_reducible assumption) | assumption); obtain ⟨ad166, A166_0, c166_0, A166_1, c166_1, e166, hx166_0, hx166_1, hx166_2, hx166_3, hx166_4, hx166_5, hl166_0, hi166_0, hl166_1, hi166_1⟩ := at_T79 HR1.out x12_1 p166 q166; cases e166; replace hx166_0 := (HB.out.cell (World.block_lt_of_cell? w _ hx166_0)).trans hx166_0; replace hx166_1 := (HB.out.cell (World.block_lt_of_cell? w _ hx166_1)).trans hx166_1; replace hx166_2 := (HB.out.cell (World.block_lt_of_cell? w _ hx166_2)).trans hx166_2; replace hx166_3 := (HB.out.cell (World.block_lt_of_cell? w _ hx166_3)).trans hx166_3; replace hx166_4 := (HB.out.cell (World.block_lt_of_cell? w _ hx166_4)).trans hx166_4; replace hx166_5 := (HB.out.cell (World.block_lt_of_cell? w _ hx166_5)).trans hx166_5; have HR166_0 := Aside0.mk hi166_0; have HC166_0 := Aside0.mk hl166_0; clear hi166_0 hl166_0; have HR166_1 := Aside0.mk hi166_1; have HC166_1 := Aside0.mk hl166_1; clear hi166_1 hl166_1; replace p166 := eq_true p166; replace q166 := eq_true q166
       go_wp2_with (first | ((with_reducible refine gate_dst (N := 15) rfl ?_); refine Ext.struct_load (hgd := ?hg) (t := 79) (x := ?vx_15) (ho := ?ho) (cs := [.slice A166_0 ((rd_T79 l1 x12_1).f0).length c166_0, .slice A166_1 ((rd_T79 l1 x12_1).f1).length c166_1, .int .i64 ((rd_T79 l1 x12_1).f2), .int .i64 ((rd_T79 l1 x12_1).f3), .int .i64 ((rd_T79 l1 x12_1).f4), .int .i64 ((rd_T79 l1 x12_1).f5)]) (haddr := ?ha) Try.underlying79 rfl (by kernel_rfl) ⟨hx166_0, hx166_1, hx166_2, hx166_3, hx166_4, hx166_5, trivial⟩ ?_; (case ho => rfl); (case hg => rfl); (case ha => rfl)) | ((with_reducible refine gate_dst (N := 5) rfl ?_); refine Ext.alloc_event (hgd := ?hg) (N := 5) (_hd := ?hd) (t := 79) (ho := ?ho) info79 ?_; (case ho => rfl); (case hd => rfl); (case hg => rfl); intro gb167 hg w10 hbox hb; have BK167 := Ext.a (hbox); have GW167 := Ext.gw hg (below_size (Ext.s1 (IsS62.ge HI0.out) HB.out)); have GE167 := Ext.gw hg (below_size (Ext.s1 (IsS62.ge HI0.out) HB.out)); replace HB := Ext.a (below_step (Ext.s1 (IsS62.ge HI0.out) HB.out) hb); have GS167 := Ext.gw hg (show IsS62 w wS _ g x1000_1 x1001_1 from by exact IsS62.go HI0.out).2.1; have NB0_167 := Ext.nt hg (IsS62.lt (IsS62.go HI0.out)); have NB167_0 := Ext.ng hg (IsS62.lt (IsS62.go HI0.out)); replace HI0 := Ext.a (IsS62.below (IsS62.go HI0.out) hb); clear hb hbox hg; have hnb11 := NB167_0.out; have hnc11 := NB0_167.out; obtain ⟨hcz12_0, hcz12_1, hcz12_2, hcz12_3, hcz12_4, hcz12_5⟩ := Ext.cells6 BK167.out; obtain ⟨hfz12_0, hfz12_1, hfz12_2, hfz12_3, hfz12_4, hfz12_5⟩ := Ext.froz6 BK167.out) | ((with_reducible refine gate_store (t := 79) (p := 5) rfl ?_); refine Ext.struct_store (hgd := ?hg) (hN := ?hn) (t := 79) (p := .tmp 5) (x := ?vo_w13) (ho := ?ho) (cells := #[.slice A166_0 ((rd_T79 l1 x12_1).f0).length c166_0, .slice A166_1 ((rd_T79 l1 x12_1).f1).length c166_1, .int .i64 ((rd_T79 l1 x12_1).f2), .int .i64 ((rd_T79 l1 x12_1).f3), .int .i64 ((rd_T79 l1 x12_1).f4), .int .i64 ((rd_T79 l1 x12_1).f5)]) (haddr := ?ha) (hx := ?hx) BK167.out rfl (by kernel_rfl) rfl ?_; (case ho => rfl); (case hg => rfl); (case hn => rfl); (case ha => rfl); (case hx => first | rfl | (go_simp; done)); intro w13 hx_ hk_ hbl_; replace HI0 := Ext.a (IsS62.keepb HI0.out hk_ (Ext.Typ.of BK167.out) NB0_167.out GS167.out (by decide)); replace BK167 := Ext.a (hx_); replace HB := Ext.a (hbl_ _ _ HB.out GE167.out); clear hx_ hk_ hbl_; obtain ⟨hcz14_0, hcz14_1, hcz14_2, hcz14_3, hcz14_4, hcz14_5⟩ := Ext.cells6 BK167.out; obtain ⟨hfz14_0, hfz14_1, hfz14_2, hfz14_3, hfz14_4, hfz14_5⟩ := Ext.froz6 BK167.out) | ((with_reducible refine gate_dst (N := 17) rfl ?_); refine Ext.struct_load_blk (hgd := ?hg) (t := 79) (x := ?vx_17) (ho := ?ho) (haddr := ?ha) Try.underlying79 rfl (by kernel_rfl) BK167.out ?_; (case ho => rfl); (case hg => rfl); (case ha => rfl)) | ((with_reducible refine gate_callee (f := 51) rfl ?_); refine Ext.gs (some 18) rfl rfl Try.func51 #[.pointer (some ⟨g, 0, none⟩), .agg #[.slice A166_0 ((rd_T79 l1 x12_1).f0).length c166_0, .slice A166_1 ((rd_T79 l1 x12_1).f1).length c166_1, .int .i64 ((rd_T79 l1 x12_1).f2), .int .i64 ((rd_T79 l1 x12_1).f3), .int .i64 ((rd_T79 l1 x12_1).f4), .int .i64 ((rd_T79 l1 x12_1).f5)]] rfl ?_; (with_reducible refine (reply_writer_kv.calls k1 g x1000_1 x1001_1 _ _ ((rd_T79 l1 x12_1).f0) _ _ ((rd_T79 l1 x12_1).f1) ((rd_T79 l1 x12_1).f2) ((rd_T79 l1 x12_1).f3) ((rd_T79 l1 x12_1).f4) ((rd_T79 l1 x12_1).f5) t168 t169 w _ ?side1 ?side2 ?side3 ?side4 ?side5 ?side6 A9.out).mono ?_); (case side1 => refine IsS62.now (wF := wS) ?_; exact IsS62.go HI0.out); (case side2 => exact Ext.s2 GE167.out (IsS62.ge HI0.out) HB.out); (case side3 => exact HR166_0.out); (case side4 => exact HC166_0.out); (case side5 => exact HR166_1.out); (case side6 => exact HC166_1.out); rintro e w15 ⟨rfl, hi, hb⟩; refine ⟨_, rfl, ?_⟩; replace HB := Ext.a (hb); replace HI0 := Ext.a (IsS62.then (by exact IsS62.go HI0.out) hi); replace BK167 := Ext.a (IsS62.blk hi (by exact BK167.out) NB167_0.out (by decide)); (try clear hb hi)))
       go_roundg k1
       case measure => have := HK1.out; omega
       case rel => exact ⟨(wrap64 (x12_1 + 1)), (t168), (t169), (by first | rfl | (simp; done) | (simp [*]; done)), H', ⟨by have := HK1.out; omega⟩, ⟨by exact IsS62.go HI0.out⟩, ⟨by exact Ext.s2 GE167.out (IsS62.ge HI0.out) HB.out⟩⟩
      · rw [if_neg c8] at H; exact absurd H (by simp)
     · rw [if_neg c7] at H; exact absurd H (by simp)
    ·
     rw [if_neg c6] at H; have c6b0 := decide_eq_false c6; clear c6; simp only [Option.some.injEq, Prod.mk.injEq] at H; obtain ⟨rfl, rfl⟩ := H
     go_wp2
     first | go_end0 | ((try simp only [Exit.inBlock, Exit.then]); refine bodyPost_ret (results_none rfl _ _ _) rfl ?_)
     exact ⟨by first | rfl | (simp [errW_none, errW_some] <;> rfl) | (simp [*, errW_none, errW_some] <;> rfl), by exact IsS62.go HI0.out, by exact Ext.s1 (IsS62.ge HI0.out) HB.out⟩
 ·
  replace c4 := Bool.eq_false_iff.mpr c4; subst c4; rw [if_neg Bool.false_ne_true] at H; simp only [Option.some.injEq, Prod.mk.injEq] at H; obtain ⟨rfl, rfl⟩ := H
  go_enter Try.func61, Try.ntmps61
  go_wp2_with (first | ((with_reducible refine gate_callee (f := 45) rfl ?_); refine Ext.gs (some 9) rfl rfl Try.func45 #[.pointer (some ⟨g, 0, none⟩), .int .i64 (l1.length : Int)] rfl ?_; (with_reducible refine (reply_writer_count.calls k g s0_0 s0_1 (l1.length : Int) false t164 t165 w _ ?side1 ?side2 A3.out).mono ?_); (case side1 => refine IsS62.now (wF := wS) ?_; repeat (first | (with_reducible first | exact HI0.out | apply IsS62.alloc | apply IsS62.drewN | apply IsS62.drew | apply IsS62.set_1) | exact HI0.out)); (case side2 => exact Ext.s1 (IsS62.ge HI0.out) HB.out); rintro e w16 ⟨rfl, hi, hb⟩; refine ⟨_, rfl, ?_⟩; replace HB := Ext.a (hb); replace HI0 := Ext.a (IsS62.then (IsS62.go HI0.out) hi); (try clear hb hi)))
  first | go_end0 | ((try simp only [Exit.inBlock, Exit.then]); refine bodyPost_ret (results_none rfl _ _ _) rfl ?_)
  exact ⟨by first | rfl | (simp [errW_none, errW_some] <;> rfl) | (simp [*, errW_none, errW_some] <;> rfl), by exact IsS62.go HI0.out, by exact Ext.s1 (IsS62.ge HI0.out) HB.out⟩

end Go.Proofs.Ytlhjdmpclfhoeaa.PC
