-- Written by wip/printx.py, a program of this work over the kit's print, for this claim.
import Derived.Test.YtlhjdmpclfhoeaaPCx0
namespace Go.Proofs.Ytlhjdmpclfhoeaa.PC
open Go.RowKit Go.Proofs.YtlhjdmpclfhoeaaW.PrintWords Go.Proofs.YtlhjdmpclfhoeaaW.PrintLast Go.Proofs.YtlhjdmpclfhoeaaW.PrintMore
attribute [local go_sem] max2_int min2_int max_two min_two max_three min_three max_four min_four   -- for this text's walks alone
attribute [local go_sem] Ext.pick_u8 Ext.pick_u32 Ext.pick_u64
set_option linter.unusedVariables false
set_option linter.unusedSimpArgs false



/-! ### reply_toldAlone: function 48 -/
def reply_toldAlone.f (a0_0 : Int) (l0_1 : List (S79)) (a0_2 : Int) (a0_3 : Bool) (l0_4 : List (S79)) (a0_5 : Int) : Option (Bool) := if a0_0 = 1 then (if a0_0 = 3 then (some ((l0_4.length : Int) == 0)) else (if a0_5 = 0 then (some ((l0_4.length : Int) == 0)) else (some false))) else (if (l0_1.length : Int) = 0 then (if a0_2 = 0 then (if a0_3 = true then (some false) else (if a0_0 = 3 then (some true) else (if a0_5 = 0 then (some true) else (some false)))) else (some false)) else (some false))
set_option maxHeartbeats 8000000 in
set_option maxRecDepth 100000 in
theorem reply_toldAlone.calls (a0_0 : Int) (A0_1 : Option Addr) (c0_1 : Nat) (l0_1 : List (S79)) (a0_2 : Int) (a0_3 : Bool) (A0_4 : Option Addr) (c0_4 : Nat) (l0_4 : List (S79)) (a0_5 : Int) (r : Bool) (w : World) (hr0_1 : Kd.C k79 w A0_1 l0_1.length l0_1) (hc0_1 : l0_1.length ≤ c0_1) (hr0_4 : Kd.C k79 w A0_4 l0_4.length l0_4) (hc0_4 : l0_4.length ≤ c0_4) (h : reply_toldAlone.f a0_0 l0_1 a0_2 a0_3 l0_4 a0_5 = some r) :
  Calls Try.prog 48 #[.agg #[.int .i64 a0_0, .slice A0_1 l0_1.length c0_1, .int .i64 a0_2, .bool a0_3, .slice A0_4 l0_4.length c0_4, .int .i64 a0_5]] w fun e w' => e = .returned (.bool r) ∧ Below w.heap.size w w' := by
 have hu27 := Try.underlying27; have HR0_1 := Aside0.mk hr0_1; have HC0_1 := Aside0.mk hc0_1; clear hr0_1 hc0_1; have HR0_4 := Aside0.mk hr0_4; have HC0_4 := Aside0.mk hc0_4; clear hr0_4 hc0_4; have HB := Ext.a (Below.refl w.heap.size w); have H := h; unfold reply_toldAlone.f at H; clear h
 by_cases c2 : a0_0 = 1
 ·
  rw [if_pos c2] at H; obtain ⟨c2b0, c2b1⟩ := Ext.eT c2; clear c2
  by_cases c3 : a0_0 = 3
  case' _ =>
   rw [if_pos c3] at H; obtain ⟨c3b0, c3b1⟩ := Ext.eT c3; clear c3
  rotate_left 1
  case' _ =>
   rw [if_neg c3] at H; obtain ⟨c3b0, c3b1⟩ := Ext.eF c3
   by_cases c6 : a0_5 = 0
   case' _ =>
    rw [if_pos c6] at H; obtain ⟨c6b0, c6b1⟩ := Ext.eT c6; clear c6
   rotate_left 1
   case' _ =>
    rw [if_neg c6] at H; obtain ⟨c6b0, c6b1⟩ := Ext.eF c6
  all_goals (obtain rfl := Option.some.inj H; go_enter Try.func48, Try.ntmps48; go_wp2_with (first | ((with_reducible refine gate_dst (N := 1) rfl ?_); (try (refine gate_guard (by rfl) ?_; dsimp only)); refine box_event ?hg (N := 1) ?hd (cs := #[.int .i64 a0_0, .slice A0_1 l0_1.length c0_1, .int .i64 a0_2, .bool a0_3, .slice A0_4 l0_4.length c0_4, .int .i64 a0_5]) (t := 27) ?hr ?_; (case hd => rfl); (case hg => rfl); (case hr => first | (go_simp; done) | (go_simp; rfl)); intro gb243 hg q0_ hbox hb; have BK243 := Ext.a (hbox); have GW243 := Ext.gw hg (below_size (Ext.nB HB.out)); have GE243 := Ext.gw hg (below_size (Ext.nB HB.out)); replace HB := Ext.a (below_step (Ext.nB HB.out) hb); clear hb hbox hg; obtain ⟨q1_, q2_, q3_, q4_, q5_, q6_⟩ := Ext.cells6 BK243.out; obtain ⟨q7_, q8_, q9_, q10_, q11_, q12_⟩ := Ext.froz6 BK243.out)); go_ret; exact ⟨by first | rfl | (simp [errW_none, errW_some] <;> rfl) | (simp [*, errW_none, errW_some] <;> rfl), by exact Ext.s1 GE243.out HB.out⟩)
 ·
  rw [if_neg c2] at H; obtain ⟨c2b0, c2b1⟩ := Ext.eF c2
  by_cases c11 : (l0_1.length : Int) = 0
  ·
   rw [if_pos c11] at H; obtain ⟨c11b0, c11b1⟩ := Ext.eT c11; clear c11
   by_cases c12 : a0_2 = 0
   ·
    rw [if_pos c12] at H; obtain ⟨c12b0, c12b1⟩ := Ext.eT c12; clear c12
    by_cases c13 : a0_3 = true
    ·
     subst c13; rw [if_pos rfl] at H; obtain rfl := Option.some.inj H
     go_enter Try.func48, Try.ntmps48
     go_wp2_with (first | ((with_reducible refine gate_dst (N := 1) rfl ?_); (try (refine gate_guard (by rfl) ?_; dsimp only)); refine box_event ?hg (N := 1) ?hd (cs := #[.int .i64 a0_0, .slice A0_1 l0_1.length c0_1, .int .i64 a0_2, .bool true, .slice A0_4 l0_4.length c0_4, .int .i64 a0_5]) (t := 27) ?hr ?_; (case hd => rfl); (case hg => rfl); (case hr => first | (go_simp; done) | (go_simp; rfl)); intro gb243 hg w14 hbox hb; have BK243 := Ext.a (hbox); have GW243 := Ext.gw hg (below_size (Ext.nB HB.out)); have GE243 := Ext.gw hg (below_size (Ext.nB HB.out)); replace HB := Ext.a (below_step (Ext.nB HB.out) hb); clear hb hbox hg; obtain ⟨hcz15_0, hcz15_1, hcz15_2, hcz15_3, hcz15_4, hcz15_5⟩ := Ext.cells6 BK243.out; obtain ⟨hfz15_0, hfz15_1, hfz15_2, hfz15_3, hfz15_4, hfz15_5⟩ := Ext.froz6 BK243.out))
     go_ret
     exact ⟨by first | rfl | (simp [errW_none, errW_some] <;> rfl) | (simp [*, errW_none, errW_some] <;> rfl), by exact Ext.s1 GE243.out HB.out⟩
    ·
     replace c13 := Bool.eq_false_iff.mpr c13; subst c13; rw [if_neg Bool.false_ne_true] at H
     by_cases c16 : a0_0 = 3
     case' _ =>
      rw [if_pos c16] at H; obtain ⟨c16b0, c16b1⟩ := Ext.eT c16; clear c16
     rotate_left 1
     case' _ =>
      rw [if_neg c16] at H; obtain ⟨c16b0, c16b1⟩ := Ext.eF c16
      by_cases c19 : a0_5 = 0
      case' _ =>
       rw [if_pos c19] at H; obtain ⟨c19b0, c19b1⟩ := Ext.eT c19; clear c19
      rotate_left 1
      case' _ =>
       rw [if_neg c19] at H; obtain ⟨c19b0, c19b1⟩ := Ext.eF c19
     all_goals (obtain rfl := Option.some.inj H; go_enter Try.func48, Try.ntmps48; go_wp2_with (first | ((with_reducible refine gate_dst (N := 1) rfl ?_); (try (refine gate_guard (by rfl) ?_; dsimp only)); refine box_event ?hg (N := 1) ?hd (cs := #[.int .i64 a0_0, .slice A0_1 l0_1.length c0_1, .int .i64 a0_2, .bool false, .slice A0_4 l0_4.length c0_4, .int .i64 a0_5]) (t := 27) ?hr ?_; (case hd => rfl); (case hg => rfl); (case hr => first | (go_simp; done) | (go_simp; rfl)); intro gb243 hg q0_ hbox hb; have BK243 := Ext.a (hbox); have GW243 := Ext.gw hg (below_size (Ext.nB HB.out)); have GE243 := Ext.gw hg (below_size (Ext.nB HB.out)); replace HB := Ext.a (below_step (Ext.nB HB.out) hb); clear hb hbox hg; obtain ⟨q1_, q2_, q3_, q4_, q5_, q6_⟩ := Ext.cells6 BK243.out; obtain ⟨q7_, q8_, q9_, q10_, q11_, q12_⟩ := Ext.froz6 BK243.out)); go_ret; exact ⟨by first | rfl | (simp [errW_none, errW_some] <;> rfl) | (simp [*, errW_none, errW_some] <;> rfl), by exact Ext.s1 GE243.out HB.out⟩)
   ·
    rw [if_neg c12] at H; obtain ⟨c12b0, c12b1⟩ := Ext.eF c12; obtain rfl := Option.some.inj H
    go_enter Try.func48, Try.ntmps48
    go_wp2_with (first | ((with_reducible refine gate_dst (N := 1) rfl ?_); (try (refine gate_guard (by rfl) ?_; dsimp only)); refine box_event ?hg (N := 1) ?hd (cs := #[.int .i64 a0_0, .slice A0_1 l0_1.length c0_1, .int .i64 a0_2, .bool a0_3, .slice A0_4 l0_4.length c0_4, .int .i64 a0_5]) (t := 27) ?hr ?_; (case hd => rfl); (case hg => rfl); (case hr => first | (go_simp; done) | (go_simp; rfl)); intro gb243 hg w24 hbox hb; have BK243 := Ext.a (hbox); have GW243 := Ext.gw hg (below_size (Ext.nB HB.out)); have GE243 := Ext.gw hg (below_size (Ext.nB HB.out)); replace HB := Ext.a (below_step (Ext.nB HB.out) hb); clear hb hbox hg; obtain ⟨hcz25_0, hcz25_1, hcz25_2, hcz25_3, hcz25_4, hcz25_5⟩ := Ext.cells6 BK243.out; obtain ⟨hfz25_0, hfz25_1, hfz25_2, hfz25_3, hfz25_4, hfz25_5⟩ := Ext.froz6 BK243.out))
    go_ret
    exact ⟨by first | rfl | (simp [errW_none, errW_some] <;> rfl) | (simp [*, errW_none, errW_some] <;> rfl), by exact Ext.s1 GE243.out HB.out⟩
  ·
   rw [if_neg c11] at H; obtain ⟨c11b0, c11b1⟩ := Ext.eF c11
   have c11b2 : ¬ (l0_1 = []) := fun h_ => c11 (by rw [h_]; rfl)
   obtain rfl := Option.some.inj H
   go_enter Try.func48, Try.ntmps48
   go_wp2_with (first | ((with_reducible refine gate_dst (N := 1) rfl ?_); (try (refine gate_guard (by rfl) ?_; dsimp only)); refine box_event ?hg (N := 1) ?hd (cs := #[.int .i64 a0_0, .slice A0_1 l0_1.length c0_1, .int .i64 a0_2, .bool a0_3, .slice A0_4 l0_4.length c0_4, .int .i64 a0_5]) (t := 27) ?hr ?_; (case hd => rfl); (case hg => rfl); (case hr => first | (go_simp; done) | (go_simp; rfl)); intro gb243 hg w26 hbox hb; have BK243 := Ext.a (hbox); have GW243 := Ext.gw hg (below_size (Ext.nB HB.out)); have GE243 := Ext.gw hg (below_size (Ext.nB HB.out)); replace HB := Ext.a (below_step (Ext.nB HB.out) hb); clear hb hbox hg; obtain ⟨hcz27_0, hcz27_1, hcz27_2, hcz27_3, hcz27_4, hcz27_5⟩ := Ext.cells6 BK243.out; obtain ⟨hfz27_0, hfz27_1, hfz27_2, hfz27_3, hfz27_4, hfz27_5⟩ := Ext.froz6 BK243.out))
   go_ret
   exact ⟨by first | rfl | (simp [errW_none, errW_some] <;> rfl) | (simp [*, errW_none, errW_some] <;> rfl), by exact Ext.s1 GE243.out HB.out⟩



/-! ### reply_noTold: function 49 -/
def reply_noTold.f (a0_0 : Int) (l0_1 : List (S79)) (a0_2 : Int) (a0_3 : Bool) (l0_4 : List (S79)) (a0_5 : Int) : Option (Bool) := if (wrap64 ((l0_1.length : Int) + (l0_4.length : Int))) = 0 then (if a0_0 = 0 then (if a0_2 = 0 then (if a0_3 = true then (some false) else (some (a0_5 == 0))) else (some false)) else (some false)) else (some false)
set_option maxHeartbeats 8000000 in
set_option maxRecDepth 100000 in
theorem reply_noTold.calls (a0_0 : Int) (A0_1 : Option Addr) (c0_1 : Nat) (l0_1 : List (S79)) (a0_2 : Int) (a0_3 : Bool) (A0_4 : Option Addr) (c0_4 : Nat) (l0_4 : List (S79)) (a0_5 : Int) (r : Bool) (w : World) (hr0_1 : Kd.C k79 w A0_1 l0_1.length l0_1) (hc0_1 : l0_1.length ≤ c0_1) (hr0_4 : Kd.C k79 w A0_4 l0_4.length l0_4) (hc0_4 : l0_4.length ≤ c0_4) (h : reply_noTold.f a0_0 l0_1 a0_2 a0_3 l0_4 a0_5 = some r) :
  Calls Try.prog 49 #[.agg #[.int .i64 a0_0, .slice A0_1 l0_1.length c0_1, .int .i64 a0_2, .bool a0_3, .slice A0_4 l0_4.length c0_4, .int .i64 a0_5]] w fun e w' => e = .returned (.bool r) ∧ Below w.heap.size w w' := by
 have hu27 := Try.underlying27; have HR0_1 := Aside0.mk hr0_1; have HC0_1 := Aside0.mk hc0_1; clear hr0_1 hc0_1; have HR0_4 := Aside0.mk hr0_4; have HC0_4 := Aside0.mk hc0_4; clear hr0_4 hc0_4; have HB := Ext.a (Below.refl w.heap.size w); have H := h; unfold reply_noTold.f at H; clear h
 by_cases c2 : (wrap64 ((l0_1.length : Int) + (l0_4.length : Int))) = 0
 ·
  rw [if_pos c2] at H; obtain ⟨c2b0, c2b1⟩ := Ext.eT c2; clear c2
  by_cases c3 : a0_0 = 0
  ·
   rw [if_pos c3] at H; obtain ⟨c3b0, c3b1⟩ := Ext.eT c3; clear c3
   by_cases c4 : a0_2 = 0
   ·
    rw [if_pos c4] at H; obtain ⟨c4b0, c4b1⟩ := Ext.eT c4; clear c4
    by_cases c5 : a0_3 = true
    ·
     subst c5; rw [if_pos rfl] at H; obtain rfl := Option.some.inj H
     go_enter Try.func49, Try.ntmps49
     go_wp2_with (first | ((with_reducible refine gate_dst (N := 1) rfl ?_); refine box_event ?hg (N := 1) ?hd (cs := #[.int .i64 a0_0, .slice A0_1 l0_1.length c0_1, .int .i64 a0_2, .bool true, .slice A0_4 l0_4.length c0_4, .int .i64 a0_5]) (t := 27) ?hr ?_; (case hd => rfl); (case hg => rfl); (case hr => first | (go_simp; done) | (go_simp; rfl)); intro gb244 hg w6 hbox hb; have BK244 := Ext.a (hbox); have GW244 := Ext.gw hg (below_size (Ext.nB HB.out)); have GE244 := Ext.gw hg (below_size (Ext.nB HB.out)); replace HB := Ext.a (below_step (Ext.nB HB.out) hb); clear hb hbox hg; obtain ⟨hcz7_0, hcz7_1, hcz7_2, hcz7_3, hcz7_4, hcz7_5⟩ := Ext.cells6 BK244.out; obtain ⟨hfz7_0, hfz7_1, hfz7_2, hfz7_3, hfz7_4, hfz7_5⟩ := Ext.froz6 BK244.out))
     go_ret
     exact ⟨by first | rfl | (simp [errW_none, errW_some] <;> rfl) | (simp [*, errW_none, errW_some] <;> rfl), by exact Ext.s1 GE244.out HB.out⟩
    ·
     replace c5 := Bool.eq_false_iff.mpr c5; subst c5; rw [if_neg Bool.false_ne_true] at H; obtain rfl := Option.some.inj H
     go_enter Try.func49, Try.ntmps49
     go_wp2_with (first | ((with_reducible refine gate_dst (N := 1) rfl ?_); refine box_event ?hg (N := 1) ?hd (cs := #[.int .i64 a0_0, .slice A0_1 l0_1.length c0_1, .int .i64 a0_2, .bool false, .slice A0_4 l0_4.length c0_4, .int .i64 a0_5]) (t := 27) ?hr ?_; (case hd => rfl); (case hg => rfl); (case hr => first | (go_simp; done) | (go_simp; rfl)); intro gb244 hg w8 hbox hb; have BK244 := Ext.a (hbox); have GW244 := Ext.gw hg (below_size (Ext.nB HB.out)); have GE244 := Ext.gw hg (below_size (Ext.nB HB.out)); replace HB := Ext.a (below_step (Ext.nB HB.out) hb); clear hb hbox hg; obtain ⟨hcz9_0, hcz9_1, hcz9_2, hcz9_3, hcz9_4, hcz9_5⟩ := Ext.cells6 BK244.out; obtain ⟨hfz9_0, hfz9_1, hfz9_2, hfz9_3, hfz9_4, hfz9_5⟩ := Ext.froz6 BK244.out))
     go_ret
     exact ⟨by first | rfl | (simp [errW_none, errW_some] <;> rfl) | (simp [*, errW_none, errW_some] <;> rfl), by exact Ext.s1 GE244.out HB.out⟩
   ·
    rw [if_neg c4] at H; obtain ⟨c4b0, c4b1⟩ := Ext.eF c4; obtain rfl := Option.some.inj H
    go_enter Try.func49, Try.ntmps49
    go_wp2_with (first | ((with_reducible refine gate_dst (N := 1) rfl ?_); refine box_event ?hg (N := 1) ?hd (cs := #[.int .i64 a0_0, .slice A0_1 l0_1.length c0_1, .int .i64 a0_2, .bool a0_3, .slice A0_4 l0_4.length c0_4, .int .i64 a0_5]) (t := 27) ?hr ?_; (case hd => rfl); (case hg => rfl); (case hr => first | (go_simp; done) | (go_simp; rfl)); intro gb244 hg w10 hbox hb; have BK244 := Ext.a (hbox); have GW244 := Ext.gw hg (below_size (Ext.nB HB.out)); have GE244 := Ext.gw hg (below_size (Ext.nB HB.out)); replace HB := Ext.a (below_step (Ext.nB HB.out) hb); clear hb hbox hg; obtain ⟨hcz11_0, hcz11_1, hcz11_2, hcz11_3, hcz11_4, hcz11_5⟩ := Ext.cells6 BK244.out; obtain ⟨hfz11_0, hfz11_1, hfz11_2, hfz11_3, hfz11_4, hfz11_5⟩ := Ext.froz6 BK244.out))
    go_ret
    exact ⟨by first | rfl | (simp [errW_none, errW_some] <;> rfl) | (simp [*, errW_none, errW_some] <;> rfl), by exact Ext.s1 GE244.out HB.out⟩
  ·
   rw [if_neg c3] at H; obtain ⟨c3b0, c3b1⟩ := Ext.eF c3; obtain rfl := Option.some.inj H
   go_enter Try.func49, Try.ntmps49
   go_wp2_with (first | ((with_reducible refine gate_dst (N := 1) rfl ?_); refine box_event ?hg (N := 1) ?hd (cs := #[.int .i64 a0_0, .slice A0_1 l0_1.length c0_1, .int .i64 a0_2, .bool a0_3, .slice A0_4 l0_4.length c0_4, .int .i64 a0_5]) (t := 27) ?hr ?_; (case hd => rfl); (case hg => rfl); (case hr => first | (go_simp; done) | (go_simp; rfl)); intro gb244 hg w12 hbox hb; have BK244 := Ext.a (hbox); have GW244 := Ext.gw hg (below_size (Ext.nB HB.out)); have GE244 := Ext.gw hg (below_size (Ext.nB HB.out)); replace HB := Ext.a (below_step (Ext.nB HB.out) hb); clear hb hbox hg; obtain ⟨hcz13_0, hcz13_1, hcz13_2, hcz13_3, hcz13_4, hcz13_5⟩ := Ext.cells6 BK244.out; obtain ⟨hfz13_0, hfz13_1, hfz13_2, hfz13_3, hfz13_4, hfz13_5⟩ := Ext.froz6 BK244.out))
   go_ret
   exact ⟨by first | rfl | (simp [errW_none, errW_some] <;> rfl) | (simp [*, errW_none, errW_some] <;> rfl), by exact Ext.s1 GE244.out HB.out⟩
 ·
  rw [if_neg c2] at H; obtain ⟨c2b0, c2b1⟩ := Ext.eF c2; obtain rfl := Option.some.inj H
  go_enter Try.func49, Try.ntmps49
  go_wp2_with (first | ((with_reducible refine gate_dst (N := 1) rfl ?_); refine box_event ?hg (N := 1) ?hd (cs := #[.int .i64 a0_0, .slice A0_1 l0_1.length c0_1, .int .i64 a0_2, .bool a0_3, .slice A0_4 l0_4.length c0_4, .int .i64 a0_5]) (t := 27) ?hr ?_; (case hd => rfl); (case hg => rfl); (case hr => first | (go_simp; done) | (go_simp; rfl)); intro gb244 hg w14 hbox hb; have BK244 := Ext.a (hbox); have GW244 := Ext.gw hg (below_size (Ext.nB HB.out)); have GE244 := Ext.gw hg (below_size (Ext.nB HB.out)); replace HB := Ext.a (below_step (Ext.nB HB.out) hb); clear hb hbox hg; obtain ⟨hcz15_0, hcz15_1, hcz15_2, hcz15_3, hcz15_4, hcz15_5⟩ := Ext.cells6 BK244.out; obtain ⟨hfz15_0, hfz15_1, hfz15_2, hfz15_3, hfz15_4, hfz15_5⟩ := Ext.froz6 BK244.out))
  go_ret
  exact ⟨by first | rfl | (simp [errW_none, errW_some] <;> rfl) | (simp [*, errW_none, errW_some] <;> rfl), by exact Ext.s1 GE244.out HB.out⟩

end Go.Proofs.Ytlhjdmpclfhoeaa.PC
