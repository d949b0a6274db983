-- Written by wip/printx.py, a program of this work over the kit's print, for this claim.
import Derived.Test.YtfkihcdonddcoaaPRx0
namespace Go.Proofs.Ytfkihcdonddcoaa.PR
open Go.RowKit Go.Proofs.YtfkihcdonddcoaaW.PrintWords Go.Proofs.YtfkihcdonddcoaaW.PrintLast Go.Proofs.YtfkihcdonddcoaaW.PrintMore
attribute [local go_sem] max2_int min2_int max_two min_two max_three min_three max_four min_four   -- for this text's walks alone
attribute [local go_sem] Ext.pick_u8 Ext.pick_u32 Ext.pick_u64
set_option linter.unusedVariables false
set_option linter.unusedSimpArgs false



/-! ### meta_Right: function 13 -/
def meta_Right.l0 : Nat → List Int → Int → Int → Int → Int → Int → Int → Option (Bool)
 | 0, _, _, _, _, _, _, _ => none
 | k + 1, x9, x10, x11, x102000, x102001, x102002, x102003 => if x11 < x10 then (if 0 ≤ x11 then (if x11 < (x9.length : Int) then (if (rd x9 x11) = 0 then (meta_Right.l0 k x9 x10 (wrap64 (x11 + 1)) x102000 x102001 x102002 x102003) else (if (rd x9 x11) < 2 then (some false) else (if (rd x9 x11) ≥ x102003 then (some false) else (meta_Right.l0 k x9 x10 (wrap64 (x11 + 1)) x102000 x102001 x102002 x102003)))) else (none)) else (none)) else (if x102003 ≥ 8 then (some (decide (x102003 ≤ 1024))) else (some false))
def meta_Right.f (k : Nat) (a0_0 : Int) (a0_1 : Int) (a0_2 : Int) (a0_3 : Int) : Option (Bool) := (some (([a0_1, a0_2] : List Int) : List Int)).bind fun y102 => (meta_Right.l0 k y102 (y102.length : Int) 0 a0_0 a0_1 a0_2 a0_3)
theorem meta_Right.mono_l : ∀ k, (∀ y0 y1 y2 y3 y4 y5 y6, LeO (meta_Right.l0 k y0 y1 y2 y3 y4 y5 y6) (meta_Right.l0 (k + 1) y0 y1 y2 y3 y4 y5 y6))
 | 0 => fun _ _ _ _ _ _ _ r h => by simp [meta_Right.l0] at h
 | k + 1 => by
  have ih0 := meta_Right.mono_l k
  ·
   intro y0 y1 y2 y3 y4 y5 y6
   unfold meta_Right.l0
   repeat' first
   | (with_reducible exact ih0 _ _ _ _ _ _ _)
   | (with_reducible exact LeO.refl _)
   | (with_reducible exact LeO.none _)
   | (with_reducible refine LeO.ite ?_ ?_)
   | (with_reducible refine LeO.bind ?_ (fun _ => ?_))
   | exact ih0 _ _ _ _ _ _ _
   | exact LeO.none _
   | refine LeO.ite ?_ ?_
   | refine LeO.bind ?_ (fun _ => ?_)
theorem meta_Right.mono : ∀ a0 a1 a2 a3 k, LeO (meta_Right.f k a0 a1 a2 a3) (meta_Right.f (k + 1) a0 a1 a2 a3) := by
 intro a0 a1 a2 a3 k
 have ih0 := meta_Right.mono_l k
 unfold meta_Right.f
 repeat' first
   | (with_reducible exact ih0 _ _ _ _ _ _ _)
   | (with_reducible exact LeO.refl _)
   | (with_reducible exact LeO.none _)
   | (with_reducible refine LeO.ite ?_ ?_)
   | (with_reducible refine LeO.bind ?_ (fun _ => ?_))
   | exact ih0 _ _ _ _ _ _ _
   | exact LeO.none _
   | refine LeO.ite ?_ ?_
   | refine LeO.bind ?_ (fun _ => ?_)
set_option maxHeartbeats 8000000 in
set_option maxRecDepth 100000 in
theorem meta_Right.calls (k : Nat) (a0_0 : Int) (a0_1 : Int) (a0_2 : Int) (a0_3 : Int) (r : Bool) (w : World) (h : meta_Right.f k a0_0 a0_1 a0_2 a0_3 = some r) :
  Calls Try.prog 13 #[.agg #[.int .u64 a0_0, .int .i64 a0_1, .int .i64 a0_2, .int .i64 a0_3]] w fun e w' => e = .returned (.bool r) ∧ Below w.heap.size w w' := by
 have hu24 := Try.underlying24
 have HB := Ext.a (Below.refl w.heap.size w)
 have H : ((some (([a0_1, a0_2] : List Int) : List Int)).bind fun y102 => (meta_Right.l0 k y102 (y102.length : Int) 0 a0_0 a0_1 a0_2 a0_3)) = some r := h
 clear h
 obtain ⟨y102, hy102⟩ : ∃ y_ : List Int, y_ = (([a0_1, a0_2] : List Int)) := ⟨_, rfl⟩
 replace H : (meta_Right.l0 k y102 (y102.length : Int) 0 a0_0 a0_1 a0_2 a0_3) = some r := by first | (rw [hy102]; with_reducible exact H) | (have H2_ := (Option.bind_some _ _).symm.trans H; rw [hy102]; with_reducible exact H2_) | (have H2_ := (Option.bind_some _ _).symm.trans H; with_reducible exact H2_) | with_reducible exact H | (rw [hy102]; exact H) | exact H
 have Ny102 := Aside0.mk hy102
 clear hy102
 have H' := Aside0.mk H
 clear H
 go_enter Try.func13, Try.ntmps13
 go_wp2_with (first | ((with_reducible refine gate_dst (N := 1) rfl ?_); refine box_event ?hg (N := 1) ?hd (cs := #[.int .u64 a0_0, .int .i64 a0_1, .int .i64 a0_2, .int .i64 a0_3]) (t := 24) ?hr ?_; (case hd => rfl); (case hg => rfl); (case hr => first | (go_simp; done) | (go_simp; rfl)); intro gb101 hg w2 hbox hb; have n0_ := Ext.a (below_step (Ext.nB HB.out) hb); have n1_ := Ext.a (hbox); have n2_ := Ext.a ((by rw [hg]; exact (below_size (Ext.nB HB.out)) : w.heap.size ≤ gb101)); have n3_ := Ext.a ((by rw [hg]; exact (below_size (Ext.nB HB.out)) : w.heap.size ≤ gb101)); clear HB; have HB := n0_; have BK101 := n1_; have GW101 := n2_; have GE101 := n3_; clear n0_ n1_ n2_ n3_; clear hb hbox hg; obtain ⟨hcz3_0, hcz3_1, hcz3_2, hcz3_3⟩ := Ext.cells4 BK101.out; obtain ⟨hfz3_0, hfz3_1, hfz3_2, hfz3_3⟩ := Ext.froz4 BK101.out) | ((with_reducible refine gate_dst (N := 9) rfl ?_); refine Kd.R_lit (Kd.int .i64) _ 3 ?hg (N := 9) ?hd (xs := ([a0_1, a0_2] : List Int)) (inner := [.int .i64 a0_1, .int .i64 a0_2]) (ok := fun _ => True) (okp := fun _ => True) ?hr ?hp (fun _ hk => hk) trivial (Below.refl _ _) (Nat.le_refl _) (by simp) ?_; (case hd => rfl); (case hg => rfl); (case hr => first | (go_simp; done) | (go_simp; rfl)); (case hp => exact (Reps.one (show Kd.M (Kd.int .i64) _ _ _ a0_1 [.int .i64 a0_1] from rfl) (Reps.one (show Kd.M (Kd.int .i64) _ _ _ a0_2 [.int .i64 a0_2] from rfl) (Reps.none _ _)))); intro v103 w4 ho5 hb hg_ hnew_; clear hg_ hnew_; (first | rw [← Ny102.out] at ho5 | (simp only [Int.reduceToNat] at ho5; rw [← Ny102.out] at ho5)); have n0_ := Ext.a (Kd.R_lower ho5 (below_size (by repeat (first | (with_reducible first | exact HB.out | apply Ext.ba | apply Ext.bn | apply Ext.bd | refine Ext.bs ?_ GE101.out) | exact HB.out | exact .refl _ _)))); have n1_ := Ext.a (blk_below BK101.out hb); have n2_ := Ext.a (below_step (by repeat (first | (with_reducible first | exact HB.out | apply Ext.ba | apply Ext.bn | apply Ext.bd | refine Ext.bs ?_ GE101.out) | exact HB.out | exact .refl _ _)) hb); clear BK101 HB; have HO104 := n0_; have BK101 := n1_; have HB := n2_; clear n0_ n1_ n2_; clear hb ho5; obtain ⟨Ao6, co6, eo6⟩ := Kd.R_slice HO104.out; subst eo6))
 go_loopg [11] k (fun kq v11 w' => ∃ (x11_1 : Int), v11 = .int .i64 x11_1 ∧ Aside0 (meta_Right.l0 kq y102 (y102.length : Int) x11_1 a0_0 a0_1 a0_2 a0_3 = some r) ∧ Aside0 (kq ≤ k) ∧ Aside0 (Kd.R (Kd.int .i64) 3 w' w.heap.size (fun _ => True) (.slice Ao6 y102.length co6) y102) ∧ Aside0 (w'.heap[gb101]? = some (.cells #[.int .u64 a0_0, .int .i64 a0_1, .int .i64 a0_2, .int .i64 a0_3] 24 (0, 0))) ∧ Aside0 (Below w.heap.size w w'))
 case atStart => exact ⟨(0), (by first | rfl | (simp; done) | (simp [*]; done)), H', ⟨Nat.le_refl _⟩, ⟨by (with_reducible repeat (first | apply Kd.R_alloc | apply Kd.R_drewN | apply Kd.R_drew)); exact HO104.out⟩, ⟨by exact BK101.out⟩, ⟨by repeat (first | (with_reducible first | exact HB.out | apply Ext.ba | apply Ext.bn | apply Ext.bd | refine Ext.bs ?_ GE101.out) | exact HB.out | exact .refl _ _)⟩⟩
 case round =>
  clear H'
  try clear c1
  try clear p2
  try clear hcz3_0
  try clear hcz3_1
  try clear hcz3_2
  try clear hcz3_3
  try clear hfz3_0
  try clear hfz3_1
  try clear hfz3_2
  try clear hfz3_3
  obtain ⟨x11_1, rfl, HA, HK1, HO_9, BK101, HB⟩ := hrel
  cases gk with
  | zero => exact absurd HA.out (by simp [meta_Right.l0])
  | succ k1 =>
   have H := HA.out
   clear HA
   simp only [meta_Right.l0] at H
   by_cases c7 : x11_1 < (y102.length : Int)
   ·
    rw [if_pos c7] at H
    have c7b0 : decide (x11_1 < (y102.length : Int)) = true := decide_eq_true c7
    clear c7
    by_cases c8 : 0 ≤ x11_1
    ·
     rw [if_pos c8] at H
     have c8b0 : decide (0 ≤ x11_1) = true := decide_eq_true c8
     clear c8
     by_cases c9 : x11_1 < (y102.length : Int)
     ·
      rw [if_pos c9] at H
      have c9b0 : decide (x11_1 < (y102.length : Int)) = true := decide_eq_true c9
      clear c9
      by_cases c10 : (rd y102 x11_1) = 0
      ·
       rw [if_pos c10] at H
       have c10b0 : ((rd y102 x11_1) == 0) = true := beq_iff_eq.mpr c10
       have c10b1 : ((rd y102 x11_1) != 0) = false := bne_eq_false_iff_eq.mpr c10
       clear c10
       have H' := Aside0.mk H
       clear H
       have p105 : 0 ≤ (x11_1 : Int) := of_decide_eq_true (by first | (with_reducible assumption) | assumption)
       have q105 : x11_1 < (y102.length : Int) := of_decide_eq_true (by first | (with_reducible assumption) | assumption)
       obtain ⟨ad105, e105, hx105_0⟩ := Kd.at_int (Kd.R_reads' HO_9.out).2.2 x11_1 p105 q105
       cases e105
       replace p105 := eq_true p105
       replace q105 := eq_true q105
       go_wp2
       go_roundg k1
       case measure => have := HK1.out; omega
       case rel => exact ⟨(wrap64 (x11_1 + 1)), (by first | rfl | (simp; done) | (simp [*]; done)), H', ⟨by have := HK1.out; omega⟩, ⟨by (with_reducible repeat (first | apply Kd.R_alloc | apply Kd.R_drewN | apply Kd.R_drew)); exact HO_9.out⟩, ⟨by exact BK101.out⟩, ⟨by repeat (first | (with_reducible first | exact HB.out | apply Ext.ba | apply Ext.bn | apply Ext.bd | refine Ext.bs ?_ GE101.out) | exact HB.out | exact .refl _ _)⟩⟩
      ·
       rw [if_neg c10] at H
       have c10b0 : ((rd y102 x11_1) == 0) = false := beq_eq_false_iff_ne.mpr c10
       have c10b1 : ((rd y102 x11_1) != 0) = true := bne_iff_ne.mpr c10
       by_cases c11 : (rd y102 x11_1) < 2
       ·
        rw [if_pos c11] at H
        have c11b0 : decide ((rd y102 x11_1) < 2) = true := decide_eq_true c11
        clear c11
        obtain rfl := Option.some.inj H
        have p105 : 0 ≤ (x11_1 : Int) := of_decide_eq_true (by first | (with_reducible assumption) | assumption)
        have q105 : x11_1 < (y102.length : Int) := of_decide_eq_true (by first | (with_reducible assumption) | assumption)
        obtain ⟨ad105, e105, hx105_0⟩ := Kd.at_int (Kd.R_reads' HO_9.out).2.2 x11_1 p105 q105
        cases e105
        replace p105 := eq_true p105
        replace q105 := eq_true q105
        go_wp2
        go_ret
        exact ⟨by first | rfl | (simp [errW_none, errW_some] <;> rfl) | (simp [*, errW_none, errW_some] <;> rfl), by repeat (first | (with_reducible first | exact HB.out | apply Ext.ba | apply Ext.bn | apply Ext.bd | refine Ext.bs ?_ GE101.out) | exact HB.out | exact .refl _ _)⟩
       ·
        rw [if_neg c11] at H
        have c11b0 : decide ((rd y102 x11_1) < 2) = false := decide_eq_false c11
        clear c11
        by_cases c12 : (rd y102 x11_1) ≥ a0_3
        ·
         rw [if_pos c12] at H
         have c12b0 : decide (a0_3 ≤ (rd y102 x11_1)) = true := decide_eq_true c12
         clear c12
         obtain rfl := Option.some.inj H
         have p105 : 0 ≤ (x11_1 : Int) := of_decide_eq_true (by first | (with_reducible assumption) | assumption)
         have q105 : x11_1 < (y102.length : Int) := of_decide_eq_true (by first | (with_reducible assumption) | assumption)
         obtain ⟨ad105, e105, hx105_0⟩ := Kd.at_int (Kd.R_reads' HO_9.out).2.2 x11_1 p105 q105
         cases e105
         replace p105 := eq_true p105
         replace q105 := eq_true q105
         obtain ⟨hcz13_0, hcz13_1, hcz13_2, hcz13_3⟩ := Ext.cells4 BK101.out
         obtain ⟨hfz13_0, hfz13_1, hfz13_2, hfz13_3⟩ := Ext.froz4 BK101.out
         go_wp2
         go_ret
         exact ⟨by first | rfl | (simp [errW_none, errW_some] <;> rfl) | (simp [*, errW_none, errW_some] <;> rfl), by repeat (first | (with_reducible first | exact HB.out | apply Ext.ba | apply Ext.bn | apply Ext.bd | refine Ext.bs ?_ GE101.out) | exact HB.out | exact .refl _ _)⟩
        ·
         rw [if_neg c12] at H
         have c12b0 : decide (a0_3 ≤ (rd y102 x11_1)) = false := decide_eq_false c12
         clear c12
         have H' := Aside0.mk H
         clear H
         have p105 : 0 ≤ (x11_1 : Int) := of_decide_eq_true (by first | (with_reducible assumption) | assumption)
         have q105 : x11_1 < (y102.length : Int) := of_decide_eq_true (by first | (with_reducible assumption) | assumption)
         obtain ⟨ad105, e105, hx105_0⟩ := Kd.at_int (Kd.R_reads' HO_9.out).2.2 x11_1 p105 q105
         cases e105
         replace p105 := eq_true p105
         replace q105 := eq_true q105
         obtain ⟨hcz14_0, hcz14_1, hcz14_2, hcz14_3⟩ := Ext.cells4 BK101.out
         obtain ⟨hfz14_0, hfz14_1, hfz14_2, hfz14_3⟩ := Ext.froz4 BK101.out
         go_wp2
         go_roundg k1
         case measure => have := HK1.out; omega
         case rel => exact ⟨(wrap64 (x11_1 + 1)), (by first | rfl | (simp; done) | (simp [*]; done)), H', ⟨by have := HK1.out; omega⟩, ⟨by (with_reducible repeat (first | apply Kd.R_alloc | apply Kd.R_drewN | apply Kd.R_drew)); exact HO_9.out⟩, ⟨by exact BK101.out⟩, ⟨by repeat (first | (with_reducible first | exact HB.out | apply Ext.ba | apply Ext.bn | apply Ext.bd | refine Ext.bs ?_ GE101.out) | exact HB.out | exact .refl _ _)⟩⟩
     · rw [if_neg c9] at H; exact absurd H (by simp)
    · rw [if_neg c8] at H; exact absurd H (by simp)
   ·
    rw [if_neg c7] at H
    have c7b0 : decide (x11_1 < (y102.length : Int)) = false := decide_eq_false c7
    clear c7
    by_cases c15 : a0_3 ≥ 8
    ·
     rw [if_pos c15] at H
     have c15b0 : decide (8 ≤ a0_3) = true := decide_eq_true c15
     clear c15
     obtain rfl := Option.some.inj H
     obtain ⟨hcz16_0, hcz16_1, hcz16_2, hcz16_3⟩ := Ext.cells4 BK101.out
     obtain ⟨hfz16_0, hfz16_1, hfz16_2, hfz16_3⟩ := Ext.froz4 BK101.out
     go_wp2
     go_ret
     exact ⟨by first | rfl | (simp [errW_none, errW_some] <;> rfl) | (simp [*, errW_none, errW_some] <;> rfl), by repeat (first | (with_reducible first | exact HB.out | apply Ext.ba | apply Ext.bn | apply Ext.bd | refine Ext.bs ?_ GE101.out) | exact HB.out | exact .refl _ _)⟩
    ·
     rw [if_neg c15] at H
     have c15b0 : decide (8 ≤ a0_3) = false := decide_eq_false c15
     clear c15
     obtain rfl := Option.some.inj H
     obtain ⟨hcz17_0, hcz17_1, hcz17_2, hcz17_3⟩ := Ext.cells4 BK101.out
     obtain ⟨hfz17_0, hfz17_1, hfz17_2, hfz17_3⟩ := Ext.froz4 BK101.out
     go_wp2
     go_ret
     exact ⟨by first | rfl | (simp [errW_none, errW_some] <;> rfl) | (simp [*, errW_none, errW_some] <;> rfl), by repeat (first | (with_reducible first | exact HB.out | apply Ext.ba | apply Ext.bn | apply Ext.bd | refine Ext.bs ?_ GE101.out) | exact HB.out | exact .refl _ _)⟩

end Go.Proofs.Ytfkihcdonddcoaa.PR
