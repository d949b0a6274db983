-- Written by wip/printx.py, a program of this work over the kit's print, for this claim.
import Derived.Test.YtdakdlgkhnjhoaaPWx0
namespace Go.Proofs.Ytdakdlgkhnjhoaa.PW
open Go.RowKit Go.Proofs.YtdakdlgkhnjhoaaW.PrintWords Go.Proofs.YtdakdlgkhnjhoaaW.PrintLast Go.Proofs.YtdakdlgkhnjhoaaW.PrintMore
attribute [local go_sem] max2_int min2_int max_two min_two max_three min_three max_four min_four   -- for this text's walks alone
attribute [local go_sem] Ext.pick_u8 Ext.pick_u32 Ext.pick_u64
set_option linter.unusedVariables false
set_option linter.unusedSimpArgs false



/-! ### terrierlaw17_few: function 8 -/
def terrierlaw17_few.l0 : Nat → List (S38) → Int → Int → Option (Bool)
 | 0, _, _, _ => none
 | k + 1, x8, x9, x10 => if x10 < x9 then (if 0 ≤ x10 then (if x10 < (x8.length : Int) then (if (wrap64 ((((rd_T38 x8 x10).f1.f0).length : Int) + (((rd_T38 x8 x10).f3.f0).length : Int))) > 200 then (some false) else (if (wrap64 ((((rd_T38 x8 x10).f1.f1).length : Int) + (((rd_T38 x8 x10).f3.f1).length : Int))) > 2000 then (some false) else (terrierlaw17_few.l0 k x8 x9 (wrap64 (x10 + 1))))) else (none)) else (none)) else (some true)
def terrierlaw17_few.f (k : Nat) (l0 : List (S38)) : Option (Bool) := if (l0.length : Int) > 80 then (some false) else (terrierlaw17_few.l0 k l0 (l0.length : Int) 0)
theorem terrierlaw17_few.mono_l : ∀ k, (∀ y0 y1 y2, LeO (terrierlaw17_few.l0 k y0 y1 y2) (terrierlaw17_few.l0 (k + 1) y0 y1 y2))
 | 0 => fun _ _ _ r h => by simp [terrierlaw17_few.l0] at h
 | k + 1 => by
  have ih0 := terrierlaw17_few.mono_l k
  ·
   intro y0 y1 y2
   unfold terrierlaw17_few.l0
   repeat' first
   | (with_reducible exact ih0 _ _ _)
   | (with_reducible exact LeO.refl _)
   | (with_reducible exact LeO.none _)
   | (with_reducible refine LeO.ite ?_ ?_)
   | (with_reducible refine LeO.bind ?_ (fun _ => ?_))
   | exact ih0 _ _ _
   | exact LeO.none _
   | refine LeO.ite ?_ ?_
   | refine LeO.bind ?_ (fun _ => ?_)
theorem terrierlaw17_few.mono : ∀ a0 k, LeO (terrierlaw17_few.f k a0) (terrierlaw17_few.f (k + 1) a0) := by
 intro a0 k
 have ih0 := terrierlaw17_few.mono_l k
 unfold terrierlaw17_few.f
 repeat' first
   | (with_reducible exact ih0 _ _ _)
   | (with_reducible exact LeO.refl _)
   | (with_reducible exact LeO.none _)
   | (with_reducible refine LeO.ite ?_ ?_)
   | (with_reducible refine LeO.bind ?_ (fun _ => ?_))
   | exact ih0 _ _ _
   | exact LeO.none _
   | refine LeO.ite ?_ ?_
   | refine LeO.bind ?_ (fun _ => ?_)
set_option maxHeartbeats 8000000 in
set_option maxRecDepth 100000 in
theorem terrierlaw17_few.calls (k : Nat) (A0 : Option Addr) (c0 : Nat) (l0 : List (S38)) (r : Bool) (w : World) (hr0 : Kd.C k38 w A0 l0.length l0) (hc0 : l0.length ≤ c0) (h : terrierlaw17_few.f k l0 = some r) :
  Calls Try.prog 8 #[.slice A0 l0.length c0] w fun e w' => e = .returned (.bool r) ∧ Below w.heap.size w w' := by
 have hu38 := Try.underlying38
 have HR0 := Aside0.mk hr0
 have HC0 := Aside0.mk hc0
 clear hr0 hc0
 have HB := Ext.a (Below.refl w.heap.size w)
 have H : (if (l0.length : Int) > 80 then (some false) else (terrierlaw17_few.l0 k l0 (l0.length : Int) 0)) = some r := h
 clear h
 by_cases c2 : (l0.length : Int) > 80
 ·
  rw [if_pos c2] at H
  have c2b0 : decide (80 < (l0.length : Int)) = true := decide_eq_true c2
  have c2b1 : decide (80 < l0.length) = true := decide_eq_true (by omega)
  clear c2
  obtain rfl := Option.some.inj H
  go_enter Try.func8, Try.ntmps8
  go_wp2
  go_ret
  exact ⟨by first | rfl | (simp [errW_none, errW_some] <;> rfl) | (simp [*, errW_none, errW_some] <;> rfl), by repeat (first | (with_reducible first | exact HB.out | apply Ext.ba | apply Ext.bn | apply Ext.bd) | exact HB.out | exact .refl _ _)⟩
 ·
  rw [if_neg c2] at H
  have c2b0 : decide (80 < (l0.length : Int)) = false := decide_eq_false c2
  have c2b1 : decide (80 < l0.length) = false := decide_eq_false (by omega)
  clear c2
  have H' := Aside0.mk H
  clear H
  go_enter Try.func8, Try.ntmps8
  go_wp2
  go_loopg [10] k (fun kq v10 w' => ∃ (x10_1 : Int), v10 = .int .i64 x10_1 ∧ Aside0 (terrierlaw17_few.l0 kq l0 (l0.length : Int) x10_1 = some r) ∧ Aside0 (kq ≤ k) ∧ Aside0 (Below w.heap.size w w'))
  case atStart => exact ⟨(0), (by first | rfl | (simp; done) | (simp [*]; done)), H', ⟨Nat.le_refl _⟩, ⟨by repeat (first | (with_reducible first | exact HB.out | apply Ext.ba | apply Ext.bn | apply Ext.bd) | exact HB.out | exact .refl _ _)⟩⟩
  case round =>
   clear H'
   try clear c2
   try clear c2b0
   try clear c2b1
   try clear p2
   obtain ⟨x10_1, rfl, HA, HK1, HB⟩ := hrel
   cases gk with
   | zero => exact absurd HA.out (by simp [terrierlaw17_few.l0])
   | succ k1 =>
    have H := HA.out
    clear HA
    simp only [terrierlaw17_few.l0] at H
    by_cases c3 : x10_1 < (l0.length : Int)
    ·
     rw [if_pos c3] at H
     have c3b0 : decide (x10_1 < (l0.length : Int)) = true := decide_eq_true c3
     clear c3
     by_cases c4 : 0 ≤ x10_1
     ·
      rw [if_pos c4] at H
      have c4b0 : decide (0 ≤ x10_1) = true := decide_eq_true c4
      clear c4
      by_cases c5 : x10_1 < (l0.length : Int)
      ·
       rw [if_pos c5] at H
       have c5b0 : decide (x10_1 < (l0.length : Int)) = true := decide_eq_true c5
       clear c5
       by_cases c6 : (wrap64 ((((rd_T38 l0 x10_1).f1.f0).length : Int) + (((rd_T38 l0 x10_1).f3.f0).length : Int))) > 200
       ·
        rw [if_pos c6] at H
        have c6b0 : decide (200 < (wrap64 ((((rd_T38 l0 x10_1).f1.f0).length : Int) + (((rd_T38 l0 x10_1).f3.f0).length : Int)))) = true := decide_eq_true c6
        clear c6
        obtain rfl := Option.some.inj H
        have p192 : 0 ≤ (x10_1 : Int) := of_decide_eq_true (by first | (with_reducible assumption) | assumption)
        have q192 : x10_1 < (l0.length : Int) := of_decide_eq_true (by first | (with_reducible assumption) | assumption)
        obtain ⟨ad192, A192_1, c192_1, A192_2, c192_2, A192_8, c192_8, A192_9, c192_9, e192, hx192_0, hx192_1, hx192_2, hx192_3, hx192_4, hx192_5, hx192_6, hx192_7, hx192_8, hx192_9, hx192_10, hx192_11, hx192_12, hx192_13, hl192_1, hi192_1, hl192_2, hi192_2, hl192_8, hi192_8, hl192_9, hi192_9⟩ := at_T38 HR0.out x10_1 p192 q192
        cases e192
        replace hx192_0 := (HB.out.cell (World.block_lt_of_cell? w _ hx192_0)).trans hx192_0
        replace hx192_1 := (HB.out.cell (World.block_lt_of_cell? w _ hx192_1)).trans hx192_1
        replace hx192_2 := (HB.out.cell (World.block_lt_of_cell? w _ hx192_2)).trans hx192_2
        replace hx192_3 := (HB.out.cell (World.block_lt_of_cell? w _ hx192_3)).trans hx192_3
        replace hx192_4 := (HB.out.cell (World.block_lt_of_cell? w _ hx192_4)).trans hx192_4
        replace hx192_5 := (HB.out.cell (World.block_lt_of_cell? w _ hx192_5)).trans hx192_5
        replace hx192_6 := (HB.out.cell (World.block_lt_of_cell? w _ hx192_6)).trans hx192_6
        replace hx192_7 := (HB.out.cell (World.block_lt_of_cell? w _ hx192_7)).trans hx192_7
        replace hx192_8 := (HB.out.cell (World.block_lt_of_cell? w _ hx192_8)).trans hx192_8
        replace hx192_9 := (HB.out.cell (World.block_lt_of_cell? w _ hx192_9)).trans hx192_9
        replace hx192_10 := (HB.out.cell (World.block_lt_of_cell? w _ hx192_10)).trans hx192_10
        replace hx192_11 := (HB.out.cell (World.block_lt_of_cell? w _ hx192_11)).trans hx192_11
        replace hx192_12 := (HB.out.cell (World.block_lt_of_cell? w _ hx192_12)).trans hx192_12
        replace hx192_13 := (HB.out.cell (World.block_lt_of_cell? w _ hx192_13)).trans hx192_13
        have HR192_1 := Aside0.mk hi192_1
        have HC192_1 := Aside0.mk hl192_1
        clear hi192_1 hl192_1
        have HR192_2 := Aside0.mk hi192_2
        have HC192_2 := Aside0.mk hl192_2
        clear hi192_2 hl192_2
        have HR192_8 := Aside0.mk hi192_8
        have HC192_8 := Aside0.mk hl192_8
        clear hi192_8 hl192_8
        have HR192_9 := Aside0.mk hi192_9
        have HC192_9 := Aside0.mk hl192_9
        clear hi192_9 hl192_9
        replace p192 := eq_true p192
        replace q192 := eq_true q192
        go_wp2_with (first | ((with_reducible refine gate_dst (N := 4) rfl ?_); (try (refine gate_guard (by rfl) ?_; dsimp only)); refine box_event ?hg (N := 4) ?hd (cs := #[.int .i64 0, .slice none 0 0, .slice none 0 0, .int .i64 0, .int .i64 0, .int .i64 0, .int .i64 0, .bool false, .slice none 0 0, .slice none 0 0, .int .i64 0, .int .i64 0, .int .i64 0, .int .i64 0]) (t := 38) ?hr ?_; (case hd => rfl); (case hg => rfl); (case hr => first | (go_simp; done) | (go_simp; rfl)); intro gb193 hg w7 hbox hb; have n0_ := Ext.a (below_step (Ext.nB HB.out) hb); have n1_ := Ext.a (hbox); have n2_ := Ext.a ((by rw [hg]; exact (below_size (Ext.nB HB.out)) : w.heap.size ≤ gb193)); have n3_ := Ext.a ((by rw [hg]; exact (below_size (Ext.nB HB.out)) : w.heap.size ≤ gb193)); clear HB; have HB := n0_; have BK193 := n1_; have GW193 := n2_; have GE193 := n3_; clear n0_ n1_ n2_ n3_; clear hb hbox hg; obtain ⟨hcz8_0, hcz8_1, hcz8_2, hcz8_3, hcz8_4, hcz8_5, hcz8_6, hcz8_7, hcz8_8, hcz8_9, hcz8_10, hcz8_11, hcz8_12, hcz8_13⟩ := Ext.cells14 BK193.out; obtain ⟨hfz8_0, hfz8_1, hfz8_2, hfz8_3, hfz8_4, hfz8_5, hfz8_6, hfz8_7, hfz8_8, hfz8_9, hfz8_10, hfz8_11, hfz8_12, hfz8_13⟩ := Ext.froz14 BK193.out))
        go_ret
        exact ⟨by first | rfl | (simp [errW_none, errW_some] <;> rfl) | (simp [*, errW_none, errW_some] <;> rfl), by repeat (first | (with_reducible first | exact HB.out | apply Ext.ba | apply Ext.bn | apply Ext.bd | refine Ext.bs ?_ GE193.out) | exact HB.out | exact .refl _ _)⟩
       ·
        rw [if_neg c6] at H
        have c6b0 : decide (200 < (wrap64 ((((rd_T38 l0 x10_1).f1.f0).length : Int) + (((rd_T38 l0 x10_1).f3.f0).length : Int)))) = false := decide_eq_false c6
        clear c6
        by_cases c9 : (wrap64 ((((rd_T38 l0 x10_1).f1.f1).length : Int) + (((rd_T38 l0 x10_1).f3.f1).length : Int))) > 2000
        ·
         rw [if_pos c9] at H
         have c9b0 : decide (2000 < (wrap64 ((((rd_T38 l0 x10_1).f1.f1).length : Int) + (((rd_T38 l0 x10_1).f3.f1).length : Int)))) = true := decide_eq_true c9
         clear c9
         obtain rfl := Option.some.inj H
         have p192 : 0 ≤ (x10_1 : Int) := of_decide_eq_true (by first | (with_reducible assumption) | assumption)
         have q192 : x10_1 < (l0.length : Int) := of_decide_eq_true (by first | (with_reducible assumption) | assumption)
         obtain ⟨ad192, A192_1, c192_1, A192_2, c192_2, A192_8, c192_8, A192_9, c192_9, e192, hx192_0, hx192_1, hx192_2, hx192_3, hx192_4, hx192_5, hx192_6, hx192_7, hx192_8, hx192_9, hx192_10, hx192_11, hx192_12, hx192_13, hl192_1, hi192_1, hl192_2, hi192_2, hl192_8, hi192_8, hl192_9, hi192_9⟩ := at_T38 HR0.out x10_1 p192 q192
         cases e192
         replace hx192_0 := (HB.out.cell (World.block_lt_of_cell? w _ hx192_0)).trans hx192_0
         replace hx192_1 := (HB.out.cell (World.block_lt_of_cell? w _ hx192_1)).trans hx192_1
         replace hx192_2 := (HB.out.cell (World.block_lt_of_cell? w _ hx192_2)).trans hx192_2
         replace hx192_3 := (HB.out.cell (World.block_lt_of_cell? w _ hx192_3)).trans hx192_3
         replace hx192_4 := (HB.out.cell (World.block_lt_of_cell? w _ hx192_4)).trans hx192_4
         replace hx192_5 := (HB.out.cell (World.block_lt_of_cell? w _ hx192_5)).trans hx192_5
         replace hx192_6 := (HB.out.cell (World.block_lt_of_cell? w _ hx192_6)).trans hx192_6
         replace hx192_7 := (HB.out.cell (World.block_lt_of_cell? w _ hx192_7)).trans hx192_7
         replace hx192_8 := (HB.out.cell (World.block_lt_of_cell? w _ hx192_8)).trans hx192_8
         replace hx192_9 := (HB.out.cell (World.block_lt_of_cell? w _ hx192_9)).trans hx192_9
         replace hx192_10 := (HB.out.cell (World.block_lt_of_cell? w _ hx192_10)).trans hx192_10
         replace hx192_11 := (HB.out.cell (World.block_lt_of_cell? w _ hx192_11)).trans hx192_11
         replace hx192_12 := (HB.out.cell (World.block_lt_of_cell? w _ hx192_12)).trans hx192_12
         replace hx192_13 := (HB.out.cell (World.block_lt_of_cell? w _ hx192_13)).trans hx192_13
         have HR192_1 := Aside0.mk hi192_1
         have HC192_1 := Aside0.mk hl192_1
         clear hi192_1 hl192_1
         have HR192_2 := Aside0.mk hi192_2
         have HC192_2 := Aside0.mk hl192_2
         clear hi192_2 hl192_2
         have HR192_8 := Aside0.mk hi192_8
         have HC192_8 := Aside0.mk hl192_8
         clear hi192_8 hl192_8
         have HR192_9 := Aside0.mk hi192_9
         have HC192_9 := Aside0.mk hl192_9
         clear hi192_9 hl192_9
         replace p192 := eq_true p192
         replace q192 := eq_true q192
         go_wp2_with (first | ((with_reducible refine gate_dst (N := 4) rfl ?_); (try (refine gate_guard (by rfl) ?_; dsimp only)); refine box_event ?hg (N := 4) ?hd (cs := #[.int .i64 0, .slice none 0 0, .slice none 0 0, .int .i64 0, .int .i64 0, .int .i64 0, .int .i64 0, .bool false, .slice none 0 0, .slice none 0 0, .int .i64 0, .int .i64 0, .int .i64 0, .int .i64 0]) (t := 38) ?hr ?_; (case hd => rfl); (case hg => rfl); (case hr => first | (go_simp; done) | (go_simp; rfl)); intro gb193 hg w10 hbox hb; have n0_ := Ext.a (below_step (Ext.nB HB.out) hb); have n1_ := Ext.a (hbox); have n2_ := Ext.a ((by rw [hg]; exact (below_size (Ext.nB HB.out)) : w.heap.size ≤ gb193)); have n3_ := Ext.a ((by rw [hg]; exact (below_size (Ext.nB HB.out)) : w.heap.size ≤ gb193)); clear HB; have HB := n0_; have BK193 := n1_; have GW193 := n2_; have GE193 := n3_; clear n0_ n1_ n2_ n3_; clear hb hbox hg; obtain ⟨hcz11_0, hcz11_1, hcz11_2, hcz11_3, hcz11_4, hcz11_5, hcz11_6, hcz11_7, hcz11_8, hcz11_9, hcz11_10, hcz11_11, hcz11_12, hcz11_13⟩ := Ext.cells14 BK193.out; obtain ⟨hfz11_0, hfz11_1, hfz11_2, hfz11_3, hfz11_4, hfz11_5, hfz11_6, hfz11_7, hfz11_8, hfz11_9, hfz11_10, hfz11_11, hfz11_12, hfz11_13⟩ := Ext.froz14 BK193.out))
         go_ret
         exact ⟨by first | rfl | (simp [errW_none, errW_some] <;> rfl) | (simp [*, errW_none, errW_some] <;> rfl), by repeat (first | (with_reducible first | exact HB.out | apply Ext.ba | apply Ext.bn | apply Ext.bd | refine Ext.bs ?_ GE193.out) | exact HB.out | exact .refl _ _)⟩
        ·
         rw [if_neg c9] at H
         have c9b0 : decide (2000 < (wrap64 ((((rd_T38 l0 x10_1).f1.f1).length : Int) + (((rd_T38 l0 x10_1).f3.f1).length : Int)))) = false := decide_eq_false c9
         clear c9
         have H' := Aside0.mk H
         clear H
         have p192 : 0 ≤ (x10_1 : Int) := of_decide_eq_true (by first | (with_reducible assumption) | assumption)
         have q192 : x10_1 < (l0.length : Int) := of_decide_eq_true (by first | (with_reducible assumption) | assumption)
         obtain ⟨ad192, A192_1, c192_1, A192_2, c192_2, A192_8, c192_8, A192_9, c192_9, e192, hx192_0, hx192_1, hx192_2, hx192_3, hx192_4, hx192_5, hx192_6, hx192_7, hx192_8, hx192_9, hx192_10, hx192_11, hx192_12, hx192_13, hl192_1, hi192_1, hl192_2, hi192_2, hl192_8, hi192_8, hl192_9, hi192_9⟩ := at_T38 HR0.out x10_1 p192 q192
         cases e192
         replace hx192_0 := (HB.out.cell (World.block_lt_of_cell? w _ hx192_0)).trans hx192_0
         replace hx192_1 := (HB.out.cell (World.block_lt_of_cell? w _ hx192_1)).trans hx192_1
         replace hx192_2 := (HB.out.cell (World.block_lt_of_cell? w _ hx192_2)).trans hx192_2
         replace hx192_3 := (HB.out.cell (World.block_lt_of_cell? w _ hx192_3)).trans hx192_3
         replace hx192_4 := (HB.out.cell (World.block_lt_of_cell? w _ hx192_4)).trans hx192_4
         replace hx192_5 := (HB.out.cell (World.block_lt_of_cell? w _ hx192_5)).trans hx192_5
         replace hx192_6 := (HB.out.cell (World.block_lt_of_cell? w _ hx192_6)).trans hx192_6
         replace hx192_7 := (HB.out.cell (World.block_lt_of_cell? w _ hx192_7)).trans hx192_7
         replace hx192_8 := (HB.out.cell (World.block_lt_of_cell? w _ hx192_8)).trans hx192_8
         replace hx192_9 := (HB.out.cell (World.block_lt_of_cell? w _ hx192_9)).trans hx192_9
         replace hx192_10 := (HB.out.cell (World.block_lt_of_cell? w _ hx192_10)).trans hx192_10
         replace hx192_11 := (HB.out.cell (World.block_lt_of_cell? w _ hx192_11)).trans hx192_11
         replace hx192_12 := (HB.out.cell (World.block_lt_of_cell? w _ hx192_12)).trans hx192_12
         replace hx192_13 := (HB.out.cell (World.block_lt_of_cell? w _ hx192_13)).trans hx192_13
         have HR192_1 := Aside0.mk hi192_1
         have HC192_1 := Aside0.mk hl192_1
         clear hi192_1 hl192_1
         have HR192_2 := Aside0.mk hi192_2
         have HC192_2 := Aside0.mk hl192_2
         clear hi192_2 hl192_2
         have HR192_8 := Aside0.mk hi192_8
         have HC192_8 := Aside0.mk hl192_8
         clear hi192_8 hl192_8
         have HR192_9 := Aside0.mk hi192_9
         have HC192_9 := Aside0.mk hl192_9
         clear hi192_9 hl192_9
         replace p192 := eq_true p192
         replace q192 := eq_true q192
         go_wp2_with (first | ((with_reducible refine gate_dst (N := 4) rfl ?_); (try (refine gate_guard (by rfl) ?_; dsimp only)); refine box_event ?hg (N := 4) ?hd (cs := #[.int .i64 0, .slice none 0 0, .slice none 0 0, .int .i64 0, .int .i64 0, .int .i64 0, .int .i64 0, .bool false, .slice none 0 0, .slice none 0 0, .int .i64 0, .int .i64 0, .int .i64 0, .int .i64 0]) (t := 38) ?hr ?_; (case hd => rfl); (case hg => rfl); (case hr => first | (go_simp; done) | (go_simp; rfl)); intro gb193 hg w12 hbox hb; have n0_ := Ext.a (below_step (Ext.nB HB.out) hb); have n1_ := Ext.a (hbox); have n2_ := Ext.a ((by rw [hg]; exact (below_size (Ext.nB HB.out)) : w.heap.size ≤ gb193)); have n3_ := Ext.a ((by rw [hg]; exact (below_size (Ext.nB HB.out)) : w.heap.size ≤ gb193)); clear HB; have HB := n0_; have BK193 := n1_; have GW193 := n2_; have GE193 := n3_; clear n0_ n1_ n2_ n3_; clear hb hbox hg; obtain ⟨hcz13_0, hcz13_1, hcz13_2, hcz13_3, hcz13_4, hcz13_5, hcz13_6, hcz13_7, hcz13_8, hcz13_9, hcz13_10, hcz13_11, hcz13_12, hcz13_13⟩ := Ext.cells14 BK193.out; obtain ⟨hfz13_0, hfz13_1, hfz13_2, hfz13_3, hfz13_4, hfz13_5, hfz13_6, hfz13_7, hfz13_8, hfz13_9, hfz13_10, hfz13_11, hfz13_12, hfz13_13⟩ := Ext.froz14 BK193.out))
         go_roundg k1
         case measure => have := HK1.out; omega
         case rel => exact ⟨(wrap64 (x10_1 + 1)), (by first | rfl | (simp; done) | (simp [*]; done)), H', ⟨by have := HK1.out; omega⟩, ⟨by repeat (first | (with_reducible first | exact HB.out | apply Ext.ba | apply Ext.bn | apply Ext.bd | refine Ext.bs ?_ GE193.out) | exact HB.out | exact .refl _ _)⟩⟩
      · rw [if_neg c5] at H; exact absurd H (by simp)
     · rw [if_neg c4] at H; exact absurd H (by simp)
    ·
     rw [if_neg c3] at H
     have c3b0 : decide (x10_1 < (l0.length : Int)) = false := decide_eq_false c3
     clear c3
     obtain rfl := Option.some.inj H
     go_wp2
     go_ret
     exact ⟨by first | rfl | (simp [errW_none, errW_some] <;> rfl) | (simp [*, errW_none, errW_some] <;> rfl), by repeat (first | (with_reducible first | exact HB.out | apply Ext.ba | apply Ext.bn | apply Ext.bd) | exact HB.out | exact .refl _ _)⟩

end Go.Proofs.Ytdakdlgkhnjhoaa.PW
