-- Written by wip/printx.py, a program of this work over the kit's print, for this claim.
import Derived.Test.YtapmgeofbjgalaaPRx0
namespace Go.Proofs.Ytapmgeofbjgalaa.PR
open Go.RowKit Go.Proofs.YtapmgeofbjgalaaW.PrintWords Go.Proofs.YtapmgeofbjgalaaW.PrintLast Go.Proofs.YtapmgeofbjgalaaW.PrintMore
attribute [local go_sem] max2_int min2_int max_two min_two max_three min_three max_four min_four   -- for this text's walks alone
attribute [local go_sem] Ext.pick_u8 Ext.pick_u32 Ext.pick_u64
set_option linter.unusedVariables false
set_option linter.unusedSimpArgs false



/-! ### terrierref13_Right: function 12 -/
def terrierref13_Right.f (l0_0 : List Int) (l0_1 : List Int) (a0_2 : Int) (a0_3 : Int) (a0_4 : Int) (a0_5 : Int) : Option (Bool) := if (l0_0.length : Int) = 0 then (some false) else (if (l0_0.length : Int) > 64 then (some false) else (if (l0_1.length : Int) > 1024 then (some false) else (if a0_2 < 1 then (some false) else (if a0_3 < a0_2 then (some false) else (if a0_3 > 4611686018427387904 then (some false) else (if a0_4 ≥ 1 then (if a0_4 ≤ 4611686018427387904 then (if a0_5 ≥ 0 then (some (decide (a0_5 ≤ 4611686018427387904))) else (some false)) else (some false)) else (some false)))))))
set_option maxHeartbeats 8000000 in
set_option maxRecDepth 100000 in
theorem terrierref13_Right.calls (A0_0 : Option Addr) (c0_0 : Nat) (l0_0 : List Int) (A0_1 : Option Addr) (c0_1 : Nat) (l0_1 : List Int) (a0_2 : Int) (a0_3 : Int) (a0_4 : Int) (a0_5 : Int) (r : Bool) (w : World) (hr0_0 : Kd.C (Kd.int .u8) w A0_0 l0_0.length l0_0) (hc0_0 : l0_0.length ≤ c0_0) (hr0_1 : Kd.C (Kd.int .u8) w A0_1 l0_1.length l0_1) (hc0_1 : l0_1.length ≤ c0_1) (h : terrierref13_Right.f l0_0 l0_1 a0_2 a0_3 a0_4 a0_5 = some r) :
  Calls Try.prog 12 #[.agg #[.slice A0_0 l0_0.length c0_0, .slice A0_1 l0_1.length c0_1, .int .i64 a0_2, .int .i64 a0_3, .int .i64 a0_4, .int .i64 a0_5]] w fun e w' => e = .returned (.bool r) ∧ Below w.heap.size w w' := by
 have hu24 := Try.underlying24
 have HR0_0 := Aside0.mk hr0_0
 have HC0_0 := Aside0.mk hc0_0
 clear hr0_0 hc0_0
 have HR0_1 := Aside0.mk hr0_1
 have HC0_1 := Aside0.mk hc0_1
 clear hr0_1 hc0_1
 have HB := Ext.a (Below.refl w.heap.size w)
 have H : (if (l0_0.length : Int) = 0 then (some false) else (if (l0_0.length : Int) > 64 then (some false) else (if (l0_1.length : Int) > 1024 then (some false) else (if a0_2 < 1 then (some false) else (if a0_3 < a0_2 then (some false) else (if a0_3 > 4611686018427387904 then (some false) else (if a0_4 ≥ 1 then (if a0_4 ≤ 4611686018427387904 then (if a0_5 ≥ 0 then (some (decide (a0_5 ≤ 4611686018427387904))) else (some false)) else (some false)) else (some false)))))))) = some r := h
 clear h
 by_cases c2 : (l0_0.length : Int) = 0
 ·
  rw [if_pos c2] at H
  have c2b0 : ((l0_0.length : Int) == 0) = true := beq_iff_eq.mpr c2
  have c2b1 : ((l0_0.length : Int) != 0) = false := bne_eq_false_iff_eq.mpr c2
  clear c2
  obtain rfl := Option.some.inj H
  go_enter Try.func12, Try.ntmps12
  go_wp2_with (first | ((with_reducible refine gate_dst (N := 1) rfl ?_); (try (refine gate_guard (by rfl) ?_; dsimp only)); refine box_event ?hg (N := 1) ?hd (cs := #[.slice A0_0 l0_0.length c0_0, .slice A0_1 l0_1.length c0_1, .int .i64 a0_2, .int .i64 a0_3, .int .i64 a0_4, .int .i64 a0_5]) (t := 24) ?hr ?_; (case hd => rfl); (case hg => rfl); (case hr => first | (go_simp; done) | (go_simp; rfl)); intro gb223 hg w3 hbox hb; have n0_ := Ext.a (below_step (Ext.nB HB.out) hb); have n1_ := Ext.a (hbox); have n2_ := Ext.a ((by rw [hg]; exact (below_size (Ext.nB HB.out)) : w.heap.size ≤ gb223)); have n3_ := Ext.a ((by rw [hg]; exact (below_size (Ext.nB HB.out)) : w.heap.size ≤ gb223)); clear HB; have HB := n0_; have BK223 := n1_; have GW223 := n2_; have GE223 := n3_; clear n0_ n1_ n2_ n3_; clear hb hbox hg; have hcz4_0 : w3.cell? ⟨gb223, 0, none⟩ = some (.slice A0_0 l0_0.length c0_0) := (blk_cell BK223.out 0).trans rfl; have hcz4_1 : w3.cell? ⟨gb223, 1, none⟩ = some (.slice A0_1 l0_1.length c0_1) := (blk_cell BK223.out 1).trans rfl; have hcz4_2 : w3.cell? ⟨gb223, 2, none⟩ = some (.int .i64 a0_2) := (blk_cell BK223.out 2).trans rfl; have hcz4_3 : w3.cell? ⟨gb223, 3, none⟩ = some (.int .i64 a0_3) := (blk_cell BK223.out 3).trans rfl; have hcz4_4 : w3.cell? ⟨gb223, 4, none⟩ = some (.int .i64 a0_4) := (blk_cell BK223.out 4).trans rfl; have hcz4_5 : w3.cell? ⟨gb223, 5, none⟩ = some (.int .i64 a0_5) := (blk_cell BK223.out 5).trans rfl; have hfz4_0 := blk_frozen BK223.out 0; have hfz4_1 := blk_frozen BK223.out 1; have hfz4_2 := blk_frozen BK223.out 2; have hfz4_3 := blk_frozen BK223.out 3; have hfz4_4 := blk_frozen BK223.out 4; have hfz4_5 := blk_frozen BK223.out 5))
  go_ret
  exact ⟨by first | rfl | (simp [errW_none, errW_some] <;> rfl) | (simp [*, errW_none, errW_some] <;> rfl), by repeat (first | (with_reducible first | exact HB.out | apply Ext.ba | apply Ext.bn | apply Ext.bd | refine Ext.bs ?_ GE223.out) | exact HB.out | exact .refl _ _)⟩
 ·
  rw [if_neg c2] at H
  have c2b0 : ((l0_0.length : Int) == 0) = false := beq_eq_false_iff_ne.mpr c2
  have c2b1 : ((l0_0.length : Int) != 0) = true := bne_iff_ne.mpr c2
  have c2b2 : ¬ (l0_0 = []) := fun h_ => c2 (by rw [h_]; rfl)
  by_cases c5 : (l0_0.length : Int) > 64
  ·
   rw [if_pos c5] at H
   have c5b0 : decide (64 < (l0_0.length : Int)) = true := decide_eq_true c5
   have c5b1 : decide (64 < l0_0.length) = true := decide_eq_true (by omega)
   clear c5
   obtain rfl := Option.some.inj H
   go_enter Try.func12, Try.ntmps12
   go_wp2_with (first | ((with_reducible refine gate_dst (N := 1) rfl ?_); (try (refine gate_guard (by rfl) ?_; dsimp only)); refine box_event ?hg (N := 1) ?hd (cs := #[.slice A0_0 l0_0.length c0_0, .slice A0_1 l0_1.length c0_1, .int .i64 a0_2, .int .i64 a0_3, .int .i64 a0_4, .int .i64 a0_5]) (t := 24) ?hr ?_; (case hd => rfl); (case hg => rfl); (case hr => first | (go_simp; done) | (go_simp; rfl)); intro gb223 hg w6 hbox hb; have n0_ := Ext.a (below_step (Ext.nB HB.out) hb); have n1_ := Ext.a (hbox); have n2_ := Ext.a ((by rw [hg]; exact (below_size (Ext.nB HB.out)) : w.heap.size ≤ gb223)); have n3_ := Ext.a ((by rw [hg]; exact (below_size (Ext.nB HB.out)) : w.heap.size ≤ gb223)); clear HB; have HB := n0_; have BK223 := n1_; have GW223 := n2_; have GE223 := n3_; clear n0_ n1_ n2_ n3_; clear hb hbox hg; have hcz7_0 : w6.cell? ⟨gb223, 0, none⟩ = some (.slice A0_0 l0_0.length c0_0) := (blk_cell BK223.out 0).trans rfl; have hcz7_1 : w6.cell? ⟨gb223, 1, none⟩ = some (.slice A0_1 l0_1.length c0_1) := (blk_cell BK223.out 1).trans rfl; have hcz7_2 : w6.cell? ⟨gb223, 2, none⟩ = some (.int .i64 a0_2) := (blk_cell BK223.out 2).trans rfl; have hcz7_3 : w6.cell? ⟨gb223, 3, none⟩ = some (.int .i64 a0_3) := (blk_cell BK223.out 3).trans rfl; have hcz7_4 : w6.cell? ⟨gb223, 4, none⟩ = some (.int .i64 a0_4) := (blk_cell BK223.out 4).trans rfl; have hcz7_5 : w6.cell? ⟨gb223, 5, none⟩ = some (.int .i64 a0_5) := (blk_cell BK223.out 5).trans rfl; have hfz7_0 := blk_frozen BK223.out 0; have hfz7_1 := blk_frozen BK223.out 1; have hfz7_2 := blk_frozen BK223.out 2; have hfz7_3 := blk_frozen BK223.out 3; have hfz7_4 := blk_frozen BK223.out 4; have hfz7_5 := blk_frozen BK223.out 5))
   go_ret
   exact ⟨by first | rfl | (simp [errW_none, errW_some] <;> rfl) | (simp [*, errW_none, errW_some] <;> rfl), by repeat (first | (with_reducible first | exact HB.out | apply Ext.ba | apply Ext.bn | apply Ext.bd | refine Ext.bs ?_ GE223.out) | exact HB.out | exact .refl _ _)⟩
  ·
   rw [if_neg c5] at H
   have c5b0 : decide (64 < (l0_0.length : Int)) = false := decide_eq_false c5
   have c5b1 : decide (64 < l0_0.length) = false := decide_eq_false (by omega)
   clear c5
   by_cases c8 : (l0_1.length : Int) > 1024
   ·
    rw [if_pos c8] at H
    have c8b0 : decide (1024 < (l0_1.length : Int)) = true := decide_eq_true c8
    have c8b1 : decide (1024 < l0_1.length) = true := decide_eq_true (by omega)
    clear c8
    obtain rfl := Option.some.inj H
    go_enter Try.func12, Try.ntmps12
    go_wp2_with (first | ((with_reducible refine gate_dst (N := 1) rfl ?_); (try (refine gate_guard (by rfl) ?_; dsimp only)); refine box_event ?hg (N := 1) ?hd (cs := #[.slice A0_0 l0_0.length c0_0, .slice A0_1 l0_1.length c0_1, .int .i64 a0_2, .int .i64 a0_3, .int .i64 a0_4, .int .i64 a0_5]) (t := 24) ?hr ?_; (case hd => rfl); (case hg => rfl); (case hr => first | (go_simp; done) | (go_simp; rfl)); intro gb223 hg w9 hbox hb; have n0_ := Ext.a (below_step (Ext.nB HB.out) hb); have n1_ := Ext.a (hbox); have n2_ := Ext.a ((by rw [hg]; exact (below_size (Ext.nB HB.out)) : w.heap.size ≤ gb223)); have n3_ := Ext.a ((by rw [hg]; exact (below_size (Ext.nB HB.out)) : w.heap.size ≤ gb223)); clear HB; have HB := n0_; have BK223 := n1_; have GW223 := n2_; have GE223 := n3_; clear n0_ n1_ n2_ n3_; clear hb hbox hg; have hcz10_0 : w9.cell? ⟨gb223, 0, none⟩ = some (.slice A0_0 l0_0.length c0_0) := (blk_cell BK223.out 0).trans rfl; have hcz10_1 : w9.cell? ⟨gb223, 1, none⟩ = some (.slice A0_1 l0_1.length c0_1) := (blk_cell BK223.out 1).trans rfl; have hcz10_2 : w9.cell? ⟨gb223, 2, none⟩ = some (.int .i64 a0_2) := (blk_cell BK223.out 2).trans rfl; have hcz10_3 : w9.cell? ⟨gb223, 3, none⟩ = some (.int .i64 a0_3) := (blk_cell BK223.out 3).trans rfl; have hcz10_4 : w9.cell? ⟨gb223, 4, none⟩ = some (.int .i64 a0_4) := (blk_cell BK223.out 4).trans rfl; have hcz10_5 : w9.cell? ⟨gb223, 5, none⟩ = some (.int .i64 a0_5) := (blk_cell BK223.out 5).trans rfl; have hfz10_0 := blk_frozen BK223.out 0; have hfz10_1 := blk_frozen BK223.out 1; have hfz10_2 := blk_frozen BK223.out 2; have hfz10_3 := blk_frozen BK223.out 3; have hfz10_4 := blk_frozen BK223.out 4; have hfz10_5 := blk_frozen BK223.out 5))
    go_ret
    exact ⟨by first | rfl | (simp [errW_none, errW_some] <;> rfl) | (simp [*, errW_none, errW_some] <;> rfl), by repeat (first | (with_reducible first | exact HB.out | apply Ext.ba | apply Ext.bn | apply Ext.bd | refine Ext.bs ?_ GE223.out) | exact HB.out | exact .refl _ _)⟩
   ·
    rw [if_neg c8] at H
    have c8b0 : decide (1024 < (l0_1.length : Int)) = false := decide_eq_false c8
    have c8b1 : decide (1024 < l0_1.length) = false := decide_eq_false (by omega)
    clear c8
    by_cases c11 : a0_2 < 1
    ·
     rw [if_pos c11] at H
     have c11b0 : decide (a0_2 < 1) = true := decide_eq_true c11
     clear c11
     obtain rfl := Option.some.inj H
     go_enter Try.func12, Try.ntmps12
     go_wp2_with (first | ((with_reducible refine gate_dst (N := 1) rfl ?_); (try (refine gate_guard (by rfl) ?_; dsimp only)); refine box_event ?hg (N := 1) ?hd (cs := #[.slice A0_0 l0_0.length c0_0, .slice A0_1 l0_1.length c0_1, .int .i64 a0_2, .int .i64 a0_3, .int .i64 a0_4, .int .i64 a0_5]) (t := 24) ?hr ?_; (case hd => rfl); (case hg => rfl); (case hr => first | (go_simp; done) | (go_simp; rfl)); intro gb223 hg w12 hbox hb; have n0_ := Ext.a (below_step (Ext.nB HB.out) hb); have n1_ := Ext.a (hbox); have n2_ := Ext.a ((by rw [hg]; exact (below_size (Ext.nB HB.out)) : w.heap.size ≤ gb223)); have n3_ := Ext.a ((by rw [hg]; exact (below_size (Ext.nB HB.out)) : w.heap.size ≤ gb223)); clear HB; have HB := n0_; have BK223 := n1_; have GW223 := n2_; have GE223 := n3_; clear n0_ n1_ n2_ n3_; clear hb hbox hg; have hcz13_0 : w12.cell? ⟨gb223, 0, none⟩ = some (.slice A0_0 l0_0.length c0_0) := (blk_cell BK223.out 0).trans rfl; have hcz13_1 : w12.cell? ⟨gb223, 1, none⟩ = some (.slice A0_1 l0_1.length c0_1) := (blk_cell BK223.out 1).trans rfl; have hcz13_2 : w12.cell? ⟨gb223, 2, none⟩ = some (.int .i64 a0_2) := (blk_cell BK223.out 2).trans rfl; have hcz13_3 : w12.cell? ⟨gb223, 3, none⟩ = some (.int .i64 a0_3) := (blk_cell BK223.out 3).trans rfl; have hcz13_4 : w12.cell? ⟨gb223, 4, none⟩ = some (.int .i64 a0_4) := (blk_cell BK223.out 4).trans rfl; have hcz13_5 : w12.cell? ⟨gb223, 5, none⟩ = some (.int .i64 a0_5) := (blk_cell BK223.out 5).trans rfl; have hfz13_0 := blk_frozen BK223.out 0; have hfz13_1 := blk_frozen BK223.out 1; have hfz13_2 := blk_frozen BK223.out 2; have hfz13_3 := blk_frozen BK223.out 3; have hfz13_4 := blk_frozen BK223.out 4; have hfz13_5 := blk_frozen BK223.out 5))
     go_ret
     exact ⟨by first | rfl | (simp [errW_none, errW_some] <;> rfl) | (simp [*, errW_none, errW_some] <;> rfl), by repeat (first | (with_reducible first | exact HB.out | apply Ext.ba | apply Ext.bn | apply Ext.bd | refine Ext.bs ?_ GE223.out) | exact HB.out | exact .refl _ _)⟩
    ·
     rw [if_neg c11] at H
     have c11b0 : decide (a0_2 < 1) = false := decide_eq_false c11
     clear c11
     by_cases c14 : a0_3 < a0_2
     ·
      rw [if_pos c14] at H
      have c14b0 : decide (a0_3 < a0_2) = true := decide_eq_true c14
      clear c14
      obtain rfl := Option.some.inj H
      go_enter Try.func12, Try.ntmps12
      go_wp2_with (first | ((with_reducible refine gate_dst (N := 1) rfl ?_); (try (refine gate_guard (by rfl) ?_; dsimp only)); refine box_event ?hg (N := 1) ?hd (cs := #[.slice A0_0 l0_0.length c0_0, .slice A0_1 l0_1.length c0_1, .int .i64 a0_2, .int .i64 a0_3, .int .i64 a0_4, .int .i64 a0_5]) (t := 24) ?hr ?_; (case hd => rfl); (case hg => rfl); (case hr => first | (go_simp; done) | (go_simp; rfl)); intro gb223 hg w15 hbox hb; have n0_ := Ext.a (below_step (Ext.nB HB.out) hb); have n1_ := Ext.a (hbox); have n2_ := Ext.a ((by rw [hg]; exact (below_size (Ext.nB HB.out)) : w.heap.size ≤ gb223)); have n3_ := Ext.a ((by rw [hg]; exact (below_size (Ext.nB HB.out)) : w.heap.size ≤ gb223)); clear HB; have HB := n0_; have BK223 := n1_; have GW223 := n2_; have GE223 := n3_; clear n0_ n1_ n2_ n3_; clear hb hbox hg; have hcz16_0 : w15.cell? ⟨gb223, 0, none⟩ = some (.slice A0_0 l0_0.length c0_0) := (blk_cell BK223.out 0).trans rfl; have hcz16_1 : w15.cell? ⟨gb223, 1, none⟩ = some (.slice A0_1 l0_1.length c0_1) := (blk_cell BK223.out 1).trans rfl; have hcz16_2 : w15.cell? ⟨gb223, 2, none⟩ = some (.int .i64 a0_2) := (blk_cell BK223.out 2).trans rfl; have hcz16_3 : w15.cell? ⟨gb223, 3, none⟩ = some (.int .i64 a0_3) := (blk_cell BK223.out 3).trans rfl; have hcz16_4 : w15.cell? ⟨gb223, 4, none⟩ = some (.int .i64 a0_4) := (blk_cell BK223.out 4).trans rfl; have hcz16_5 : w15.cell? ⟨gb223, 5, none⟩ = some (.int .i64 a0_5) := (blk_cell BK223.out 5).trans rfl; have hfz16_0 := blk_frozen BK223.out 0; have hfz16_1 := blk_frozen BK223.out 1; have hfz16_2 := blk_frozen BK223.out 2; have hfz16_3 := blk_frozen BK223.out 3; have hfz16_4 := blk_frozen BK223.out 4; have hfz16_5 := blk_frozen BK223.out 5))
      go_ret
      exact ⟨by first | rfl | (simp [errW_none, errW_some] <;> rfl) | (simp [*, errW_none, errW_some] <;> rfl), by repeat (first | (with_reducible first | exact HB.out | apply Ext.ba | apply Ext.bn | apply Ext.bd | refine Ext.bs ?_ GE223.out) | exact HB.out | exact .refl _ _)⟩
     ·
      rw [if_neg c14] at H
      have c14b0 : decide (a0_3 < a0_2) = false := decide_eq_false c14
      clear c14
      by_cases c17 : a0_3 > 4611686018427387904
      ·
       rw [if_pos c17] at H
       have c17b0 : decide (4611686018427387904 < a0_3) = true := decide_eq_true c17
       clear c17
       obtain rfl := Option.some.inj H
       go_enter Try.func12, Try.ntmps12
       go_wp2_with (first | ((with_reducible refine gate_dst (N := 1) rfl ?_); (try (refine gate_guard (by rfl) ?_; dsimp only)); refine box_event ?hg (N := 1) ?hd (cs := #[.slice A0_0 l0_0.length c0_0, .slice A0_1 l0_1.length c0_1, .int .i64 a0_2, .int .i64 a0_3, .int .i64 a0_4, .int .i64 a0_5]) (t := 24) ?hr ?_; (case hd => rfl); (case hg => rfl); (case hr => first | (go_simp; done) | (go_simp; rfl)); intro gb223 hg w18 hbox hb; have n0_ := Ext.a (below_step (Ext.nB HB.out) hb); have n1_ := Ext.a (hbox); have n2_ := Ext.a ((by rw [hg]; exact (below_size (Ext.nB HB.out)) : w.heap.size ≤ gb223)); have n3_ := Ext.a ((by rw [hg]; exact (below_size (Ext.nB HB.out)) : w.heap.size ≤ gb223)); clear HB; have HB := n0_; have BK223 := n1_; have GW223 := n2_; have GE223 := n3_; clear n0_ n1_ n2_ n3_; clear hb hbox hg; have hcz19_0 : w18.cell? ⟨gb223, 0, none⟩ = some (.slice A0_0 l0_0.length c0_0) := (blk_cell BK223.out 0).trans rfl; have hcz19_1 : w18.cell? ⟨gb223, 1, none⟩ = some (.slice A0_1 l0_1.length c0_1) := (blk_cell BK223.out 1).trans rfl; have hcz19_2 : w18.cell? ⟨gb223, 2, none⟩ = some (.int .i64 a0_2) := (blk_cell BK223.out 2).trans rfl; have hcz19_3 : w18.cell? ⟨gb223, 3, none⟩ = some (.int .i64 a0_3) := (blk_cell BK223.out 3).trans rfl; have hcz19_4 : w18.cell? ⟨gb223, 4, none⟩ = some (.int .i64 a0_4) := (blk_cell BK223.out 4).trans rfl; have hcz19_5 : w18.cell? ⟨gb223, 5, none⟩ = some (.int .i64 a0_5) := (blk_cell BK223.out 5).trans rfl; have hfz19_0 := blk_frozen BK223.out 0; have hfz19_1 := blk_frozen BK223.out 1; have hfz19_2 := blk_frozen BK223.out 2; have hfz19_3 := blk_frozen BK223.out 3; have hfz19_4 := blk_frozen BK223.out 4; have hfz19_5 := blk_frozen BK223.out 5))
       go_ret
       exact ⟨by first | rfl | (simp [errW_none, errW_some] <;> rfl) | (simp [*, errW_none, errW_some] <;> rfl), by repeat (first | (with_reducible first | exact HB.out | apply Ext.ba | apply Ext.bn | apply Ext.bd | refine Ext.bs ?_ GE223.out) | exact HB.out | exact .refl _ _)⟩
      ·
       rw [if_neg c17] at H
       have c17b0 : decide (4611686018427387904 < a0_3) = false := decide_eq_false c17
       clear c17
       by_cases c20 : a0_4 ≥ 1
       ·
        rw [if_pos c20] at H
        have c20b0 : decide (1 ≤ a0_4) = true := decide_eq_true c20
        clear c20
        by_cases c21 : a0_4 ≤ 4611686018427387904
        ·
         rw [if_pos c21] at H
         have c21b0 : decide (a0_4 ≤ 4611686018427387904) = true := decide_eq_true c21
         clear c21
         by_cases c22 : a0_5 ≥ 0
         ·
          rw [if_pos c22] at H
          have c22b0 : decide (0 ≤ a0_5) = true := decide_eq_true c22
          clear c22
          obtain rfl := Option.some.inj H
          go_enter Try.func12, Try.ntmps12
          go_wp2_with (first | ((with_reducible refine gate_dst (N := 1) rfl ?_); (try (refine gate_guard (by rfl) ?_; dsimp only)); refine box_event ?hg (N := 1) ?hd (cs := #[.slice A0_0 l0_0.length c0_0, .slice A0_1 l0_1.length c0_1, .int .i64 a0_2, .int .i64 a0_3, .int .i64 a0_4, .int .i64 a0_5]) (t := 24) ?hr ?_; (case hd => rfl); (case hg => rfl); (case hr => first | (go_simp; done) | (go_simp; rfl)); intro gb223 hg w23 hbox hb; have n0_ := Ext.a (below_step (Ext.nB HB.out) hb); have n1_ := Ext.a (hbox); have n2_ := Ext.a ((by rw [hg]; exact (below_size (Ext.nB HB.out)) : w.heap.size ≤ gb223)); have n3_ := Ext.a ((by rw [hg]; exact (below_size (Ext.nB HB.out)) : w.heap.size ≤ gb223)); clear HB; have HB := n0_; have BK223 := n1_; have GW223 := n2_; have GE223 := n3_; clear n0_ n1_ n2_ n3_; clear hb hbox hg; have hcz24_0 : w23.cell? ⟨gb223, 0, none⟩ = some (.slice A0_0 l0_0.length c0_0) := (blk_cell BK223.out 0).trans rfl; have hcz24_1 : w23.cell? ⟨gb223, 1, none⟩ = some (.slice A0_1 l0_1.length c0_1) := (blk_cell BK223.out 1).trans rfl; have hcz24_2 : w23.cell? ⟨gb223, 2, none⟩ = some (.int .i64 a0_2) := (blk_cell BK223.out 2).trans rfl; have hcz24_3 : w23.cell? ⟨gb223, 3, none⟩ = some (.int .i64 a0_3) := (blk_cell BK223.out 3).trans rfl; have hcz24_4 : w23.cell? ⟨gb223, 4, none⟩ = some (.int .i64 a0_4) := (blk_cell BK223.out 4).trans rfl; have hcz24_5 : w23.cell? ⟨gb223, 5, none⟩ = some (.int .i64 a0_5) := (blk_cell BK223.out 5).trans rfl; have hfz24_0 := blk_frozen BK223.out 0; have hfz24_1 := blk_frozen BK223.out 1; have hfz24_2 := blk_frozen BK223.out 2; have hfz24_3 := blk_frozen BK223.out 3; have hfz24_4 := blk_frozen BK223.out 4; have hfz24_5 := blk_frozen BK223.out 5))
          go_ret
          exact ⟨by first | rfl | (simp [errW_none, errW_some] <;> rfl) | (simp [*, errW_none, errW_some] <;> rfl), by repeat (first | (with_reducible first | exact HB.out | apply Ext.ba | apply Ext.bn | apply Ext.bd | refine Ext.bs ?_ GE223.out) | exact HB.out | exact .refl _ _)⟩
         ·
          rw [if_neg c22] at H
          have c22b0 : decide (0 ≤ a0_5) = false := decide_eq_false c22
          clear c22
          obtain rfl := Option.some.inj H
          go_enter Try.func12, Try.ntmps12
          go_wp2_with (first | ((with_reducible refine gate_dst (N := 1) rfl ?_); (try (refine gate_guard (by rfl) ?_; dsimp only)); refine box_event ?hg (N := 1) ?hd (cs := #[.slice A0_0 l0_0.length c0_0, .slice A0_1 l0_1.length c0_1, .int .i64 a0_2, .int .i64 a0_3, .int .i64 a0_4, .int .i64 a0_5]) (t := 24) ?hr ?_; (case hd => rfl); (case hg => rfl); (case hr => first | (go_simp; done) | (go_simp; rfl)); intro gb223 hg w25 hbox hb; have n0_ := Ext.a (below_step (Ext.nB HB.out) hb); have n1_ := Ext.a (hbox); have n2_ := Ext.a ((by rw [hg]; exact (below_size (Ext.nB HB.out)) : w.heap.size ≤ gb223)); have n3_ := Ext.a ((by rw [hg]; exact (below_size (Ext.nB HB.out)) : w.heap.size ≤ gb223)); clear HB; have HB := n0_; have BK223 := n1_; have GW223 := n2_; have GE223 := n3_; clear n0_ n1_ n2_ n3_; clear hb hbox hg; have hcz26_0 : w25.cell? ⟨gb223, 0, none⟩ = some (.slice A0_0 l0_0.length c0_0) := (blk_cell BK223.out 0).trans rfl; have hcz26_1 : w25.cell? ⟨gb223, 1, none⟩ = some (.slice A0_1 l0_1.length c0_1) := (blk_cell BK223.out 1).trans rfl; have hcz26_2 : w25.cell? ⟨gb223, 2, none⟩ = some (.int .i64 a0_2) := (blk_cell BK223.out 2).trans rfl; have hcz26_3 : w25.cell? ⟨gb223, 3, none⟩ = some (.int .i64 a0_3) := (blk_cell BK223.out 3).trans rfl; have hcz26_4 : w25.cell? ⟨gb223, 4, none⟩ = some (.int .i64 a0_4) := (blk_cell BK223.out 4).trans rfl; have hcz26_5 : w25.cell? ⟨gb223, 5, none⟩ = some (.int .i64 a0_5) := (blk_cell BK223.out 5).trans rfl; have hfz26_0 := blk_frozen BK223.out 0; have hfz26_1 := blk_frozen BK223.out 1; have hfz26_2 := blk_frozen BK223.out 2; have hfz26_3 := blk_frozen BK223.out 3; have hfz26_4 := blk_frozen BK223.out 4; have hfz26_5 := blk_frozen BK223.out 5))
          go_ret
          exact ⟨by first | rfl | (simp [errW_none, errW_some] <;> rfl) | (simp [*, errW_none, errW_some] <;> rfl), by repeat (first | (with_reducible first | exact HB.out | apply Ext.ba | apply Ext.bn | apply Ext.bd | refine Ext.bs ?_ GE223.out) | exact HB.out | exact .refl _ _)⟩
        ·
         rw [if_neg c21] at H
         have c21b0 : decide (a0_4 ≤ 4611686018427387904) = false := decide_eq_false c21
         clear c21
         obtain rfl := Option.some.inj H
         go_enter Try.func12, Try.ntmps12
         go_wp2_with (first | ((with_reducible refine gate_dst (N := 1) rfl ?_); (try (refine gate_guard (by rfl) ?_; dsimp only)); refine box_event ?hg (N := 1) ?hd (cs := #[.slice A0_0 l0_0.length c0_0, .slice A0_1 l0_1.length c0_1, .int .i64 a0_2, .int .i64 a0_3, .int .i64 a0_4, .int .i64 a0_5]) (t := 24) ?hr ?_; (case hd => rfl); (case hg => rfl); (case hr => first | (go_simp; done) | (go_simp; rfl)); intro gb223 hg w27 hbox hb; have n0_ := Ext.a (below_step (Ext.nB HB.out) hb); have n1_ := Ext.a (hbox); have n2_ := Ext.a ((by rw [hg]; exact (below_size (Ext.nB HB.out)) : w.heap.size ≤ gb223)); have n3_ := Ext.a ((by rw [hg]; exact (below_size (Ext.nB HB.out)) : w.heap.size ≤ gb223)); clear HB; have HB := n0_; have BK223 := n1_; have GW223 := n2_; have GE223 := n3_; clear n0_ n1_ n2_ n3_; clear hb hbox hg; have hcz28_0 : w27.cell? ⟨gb223, 0, none⟩ = some (.slice A0_0 l0_0.length c0_0) := (blk_cell BK223.out 0).trans rfl; have hcz28_1 : w27.cell? ⟨gb223, 1, none⟩ = some (.slice A0_1 l0_1.length c0_1) := (blk_cell BK223.out 1).trans rfl; have hcz28_2 : w27.cell? ⟨gb223, 2, none⟩ = some (.int .i64 a0_2) := (blk_cell BK223.out 2).trans rfl; have hcz28_3 : w27.cell? ⟨gb223, 3, none⟩ = some (.int .i64 a0_3) := (blk_cell BK223.out 3).trans rfl; have hcz28_4 : w27.cell? ⟨gb223, 4, none⟩ = some (.int .i64 a0_4) := (blk_cell BK223.out 4).trans rfl; have hcz28_5 : w27.cell? ⟨gb223, 5, none⟩ = some (.int .i64 a0_5) := (blk_cell BK223.out 5).trans rfl; have hfz28_0 := blk_frozen BK223.out 0; have hfz28_1 := blk_frozen BK223.out 1; have hfz28_2 := blk_frozen BK223.out 2; have hfz28_3 := blk_frozen BK223.out 3; have hfz28_4 := blk_frozen BK223.out 4; have hfz28_5 := blk_frozen BK223.out 5))
         go_ret
         exact ⟨by first | rfl | (simp [errW_none, errW_some] <;> rfl) | (simp [*, errW_none, errW_some] <;> rfl), by repeat (first | (with_reducible first | exact HB.out | apply Ext.ba | apply Ext.bn | apply Ext.bd | refine Ext.bs ?_ GE223.out) | exact HB.out | exact .refl _ _)⟩
       ·
        rw [if_neg c20] at H
        have c20b0 : decide (1 ≤ a0_4) = false := decide_eq_false c20
        clear c20
        obtain rfl := Option.some.inj H
        go_enter Try.func12, Try.ntmps12
        go_wp2_with (first | ((with_reducible refine gate_dst (N := 1) rfl ?_); (try (refine gate_guard (by rfl) ?_; dsimp only)); refine box_event ?hg (N := 1) ?hd (cs := #[.slice A0_0 l0_0.length c0_0, .slice A0_1 l0_1.length c0_1, .int .i64 a0_2, .int .i64 a0_3, .int .i64 a0_4, .int .i64 a0_5]) (t := 24) ?hr ?_; (case hd => rfl); (case hg => rfl); (case hr => first | (go_simp; done) | (go_simp; rfl)); intro gb223 hg w29 hbox hb; have n0_ := Ext.a (below_step (Ext.nB HB.out) hb); have n1_ := Ext.a (hbox); have n2_ := Ext.a ((by rw [hg]; exact (below_size (Ext.nB HB.out)) : w.heap.size ≤ gb223)); have n3_ := Ext.a ((by rw [hg]; exact (below_size (Ext.nB HB.out)) : w.heap.size ≤ gb223)); clear HB; have HB := n0_; have BK223 := n1_; have GW223 := n2_; have GE223 := n3_; clear n0_ n1_ n2_ n3_; clear hb hbox hg; have hcz30_0 : w29.cell? ⟨gb223, 0, none⟩ = some (.slice A0_0 l0_0.length c0_0) := (blk_cell BK223.out 0).trans rfl; have hcz30_1 : w29.cell? ⟨gb223, 1, none⟩ = some (.slice A0_1 l0_1.length c0_1) := (blk_cell BK223.out 1).trans rfl; have hcz30_2 : w29.cell? ⟨gb223, 2, none⟩ = some (.int .i64 a0_2) := (blk_cell BK223.out 2).trans rfl; have hcz30_3 : w29.cell? ⟨gb223, 3, none⟩ = some (.int .i64 a0_3) := (blk_cell BK223.out 3).trans rfl; have hcz30_4 : w29.cell? ⟨gb223, 4, none⟩ = some (.int .i64 a0_4) := (blk_cell BK223.out 4).trans rfl; have hcz30_5 : w29.cell? ⟨gb223, 5, none⟩ = some (.int .i64 a0_5) := (blk_cell BK223.out 5).trans rfl; have hfz30_0 := blk_frozen BK223.out 0; have hfz30_1 := blk_frozen BK223.out 1; have hfz30_2 := blk_frozen BK223.out 2; have hfz30_3 := blk_frozen BK223.out 3; have hfz30_4 := blk_frozen BK223.out 4; have hfz30_5 := blk_frozen BK223.out 5))
        go_ret
        exact ⟨by first | rfl | (simp [errW_none, errW_some] <;> rfl) | (simp [*, errW_none, errW_some] <;> rfl), by repeat (first | (with_reducible first | exact HB.out | apply Ext.ba | apply Ext.bn | apply Ext.bd | refine Ext.bs ?_ GE223.out) | exact HB.out | exact .refl _ _)⟩

end Go.Proofs.Ytapmgeofbjgalaa.PR
