-- Written by wip/printx.py, a program of this work over the kit's print, for this claim.
import Derived.Test.YtlhjdmpclfhoeaaPCx0
import Derived.Test.YtlhjdmpclfhoeaaPCx10
namespace Go.Proofs.Ytlhjdmpclfhoeaa.PC
open Go.RowKit Go.Proofs.YtlhjdmpclfhoeaaW.PrintWords Go.Proofs.YtlhjdmpclfhoeaaW.PrintLast Go.Proofs.YtlhjdmpclfhoeaaW.PrintMore
attribute [local go_sem] max2_int min2_int max_two min_two max_three min_three max_four min_four   -- for this text's walks alone
attribute [local go_sem] Ext.pick_u8 Ext.pick_u32 Ext.pick_u64
set_option linter.unusedVariables false
set_option linter.unusedSimpArgs false



/-! ### terrierref20_used: function 26 -/
mutual
def terrierref20_used.j0 : Nat → Int → Bool → Option ((Bool × Bool × Bool × Bool × Bool × Bool × Bool × Bool × Bool))
 | 0, _, _ => none
 | k + 1, x3, x4 => if x4 = true then (some (true, false, false, false, false, false, false, false, false)) else (if x3 = 4 then (some (false, true, true, false, false, false, false, false, false)) else (if x3 = 6 then (some (false, false, false, true, true, false, false, false, false)) else (if x3 = 8 then (terrierref20_used.j1 k x3 (x3 == 8)) else (terrierref20_used.j1 k x3 (x3 == 13)))))
def terrierref20_used.j1 : Nat → Int → Bool → Option ((Bool × Bool × Bool × Bool × Bool × Bool × Bool × Bool × Bool))
 | 0, _, _ => none
 | k + 1, x3, x15 => if x15 = true then (some (false, false, true, true, true, false, false, false, false)) else (if x3 = 9 then (some (false, false, false, true, true, true, true, false, false)) else (if x3 = 10 then (some (false, false, false, false, false, false, false, true, false)) else (if x3 = 11 then (some (false, false, false, true, false, false, false, false, false)) else (if x3 = 14 then (some (false, false, false, false, false, false, false, false, true)) else (if x3 = 15 then (some (false, false, false, false, true, true, false, false, false)) else (some (false, false, false, false, false, false, false, false, false)))))))
end
def terrierref20_used.f (k : Nat) (a0 : Int) : Option ((Bool × Bool × Bool × Bool × Bool × Bool × Bool × Bool × Bool)) := if a0 = 1 then (terrierref20_used.j0 k a0 (a0 == 1)) else (if a0 = 2 then (terrierref20_used.j0 k a0 (a0 == 2)) else (terrierref20_used.j0 k a0 (a0 == 3)))
theorem terrierref20_used.mono_l : ∀ k, (∀ y0 y1, LeO (terrierref20_used.j0 k y0 y1) (terrierref20_used.j0 (k + 1) y0 y1)) ∧ (∀ y0 y1, LeO (terrierref20_used.j1 k y0 y1) (terrierref20_used.j1 (k + 1) y0 y1))
 | 0 => ⟨fun _ _ r h => by simp [terrierref20_used.j0] at h, fun _ _ r h => by simp [terrierref20_used.j1] at h⟩
 | k + 1 => by
  obtain ⟨ih0, ih1⟩ := terrierref20_used.mono_l k; refine ⟨?_, ?_⟩
  ·
   intro y0 y1
   unfold terrierref20_used.j0
   repeat' first
   | (with_reducible exact ih0 _ _)
   | (with_reducible exact ih1 _ _)
   | (with_reducible exact LeO.refl _)
   | (with_reducible exact LeO.none _)
   | (with_reducible refine LeO.ite ?_ ?_)
   | (with_reducible refine LeO.bind ?_ (fun _ => ?_))
   | exact ih0 _ _
   | exact ih1 _ _
   | exact LeO.none _
   | refine LeO.ite ?_ ?_
   | refine LeO.bind ?_ (fun _ => ?_)
  ·
   intro y0 y1
   unfold terrierref20_used.j1
   repeat' first
   | (with_reducible exact ih0 _ _)
   | (with_reducible exact ih1 _ _)
   | (with_reducible exact LeO.refl _)
   | (with_reducible exact LeO.none _)
   | (with_reducible refine LeO.ite ?_ ?_)
   | (with_reducible refine LeO.bind ?_ (fun _ => ?_))
   | exact ih0 _ _
   | exact ih1 _ _
   | exact LeO.none _
   | refine LeO.ite ?_ ?_
   | refine LeO.bind ?_ (fun _ => ?_)
theorem terrierref20_used.mono : ∀ a0 k, LeO (terrierref20_used.f k a0) (terrierref20_used.f (k + 1) a0) := by
 intro a0 k
 obtain ⟨ih0, ih1⟩ := terrierref20_used.mono_l k; unfold terrierref20_used.f
 repeat' first
   | (with_reducible exact ih0 _ _)
   | (with_reducible exact ih1 _ _)
   | (with_reducible exact LeO.refl _)
   | (with_reducible exact LeO.none _)
   | (with_reducible refine LeO.ite ?_ ?_)
   | (with_reducible refine LeO.bind ?_ (fun _ => ?_))
   | exact ih0 _ _
   | exact ih1 _ _
   | exact LeO.none _
   | refine LeO.ite ?_ ?_
   | refine LeO.bind ?_ (fun _ => ?_)
set_option maxHeartbeats 8000000 in
set_option maxRecDepth 100000 in
theorem terrierref20_used.calls (k : Nat) (a0 : Int) (r : (Bool × Bool × Bool × Bool × Bool × Bool × Bool × Bool × Bool)) (w : World) (h : terrierref20_used.f k a0 = some r) :
  Calls Try.prog 26 #[.int .i64 a0] w fun e w' => e = .returned (.agg #[.bool r.1, .bool r.2.1, .bool r.2.2.1, .bool r.2.2.2.1, .bool r.2.2.2.2.1, .bool r.2.2.2.2.2.1, .bool r.2.2.2.2.2.2.1, .bool r.2.2.2.2.2.2.2.1, .bool r.2.2.2.2.2.2.2.2]) ∧ Below w.heap.size w w' := by
 have hu69 := Try.underlying69; have HB := Ext.a (Below.refl w.heap.size w); have H := h; unfold terrierref20_used.f at H; clear h; have HC2 := Aside0.mk H; clear H
 go_enter Try.func26, Try.ntmps26
 go_upto_if 4 with (first | ((with_reducible refine gate_dst (N := 2) rfl ?_); refine Ext.alloc_event (hgd := ?hg) (N := 2) (_hd := ?hd) (t := 69) (ho := ?ho) info69 ?_; (case ho => rfl); (case hd => rfl); (case hg => rfl); intro gb313 hg w3 hbox hb; have BK313 := Ext.a (hbox); have GW313 := Ext.gw hg (below_size (Ext.nB HB.out)); have GE313 := Ext.gw hg (below_size (Ext.nB HB.out)); replace HB := Ext.a (below_step (Ext.nB HB.out) hb); clear hb hbox hg))
 (try simp only [Act.put, Ext.sb, Ext.sz, Ext.ss])
 go_cut [4] (fun v4 wc => ∃ (kq : Nat) (x4_1 : Bool), v4 = .bool x4_1 ∧ Aside0 (terrierref20_used.j0 kq a0 x4_1 = some r) ∧ Aside0 (kq ≤ k) ∧ Aside0 (wc.heap[gb313]? = some (.cells #[.bool false, .bool false, .bool false, .bool false, .bool false, .bool false, .bool false, .bool false, .bool false] 69 (0, 0))) ∧ Aside0 (Below w.heap.size w wc))
 case first =>
  have H := HC2.out; clear HC2
  by_cases c4 : a0 = 1
  case' _ =>
   rw [if_pos c4] at H; obtain ⟨c4b0, c4b1⟩ := Ext.eT c4; clear c4
   (first | rw [c4b0] | (simp only [i64_w, i32_w]; rw [c4b0]) | skip)
  rotate_left 1
  case' _ =>
   rw [if_neg c4] at H; obtain ⟨c4b0, c4b1⟩ := Ext.eF c4
   (first | rw [c4b0] | (simp only [i64_w, i32_w]; rw [c4b0]) | skip)
   by_cases c5 : a0 = 2
   case' _ =>
    rw [if_pos c5] at H; obtain ⟨c5b0, c5b1⟩ := Ext.eT c5; clear c5
   rotate_left 1
   case' _ =>
    rw [if_neg c5] at H; obtain ⟨c5b0, c5b1⟩ := Ext.eF c5
  all_goals (have H' := Aside0.mk H; clear H; go_wp2; go_meet; (case rel => exact ⟨_, _, (by first | rfl | (simp; done) | (simp [*]; done)), H', ⟨by first | omega | exact Nat.le_refl _⟩, ⟨by exact BK313.out⟩, ⟨by exact Ext.s1 GE313.out HB.out⟩⟩))
 case rest =>
  clear HC2; (try clear c2 p2 c4b0 c4b1 c5b0 c5b1); obtain ⟨kq, x4_1, rfl, HA, HJ1, BK313, HB⟩ := hcut; cases kq with
  | zero => exact absurd HA.out (by simp [terrierref20_used.j0])
  | succ kj1 =>
   have H := HA.out; clear HA; simp only [terrierref20_used.j0] at H
   by_cases c6 : x4_1 = true
   ·
    subst c6; rw [if_pos rfl] at H; obtain rfl := Option.some.inj H; have hcz7 := Ext.cells9 BK313.out; have hfz7 := Ext.froz9 BK313.out
    go_wp2_with (first | ((with_reducible refine gate_store (t := 69) (p := 2) rfl ?_); refine Ext.struct_store (hgd := ?hg) (hN := ?hn) (t := 69) (p := .tmp 2) (x := ?vo_w8) (ho := ?ho) (cells := #[.bool true, .bool false, .bool false, .bool false, .bool false, .bool false, .bool false, .bool false, .bool false]) (haddr := ?ha) (hx := ?hx) BK313.out rfl (by kernel_rfl) rfl ?_; (case ho => rfl); (case hg => rfl); (case hn => rfl); (case ha => rfl); (case hx => first | rfl | (go_simp; done)); intro w8 hx_ hk_ hbl_; replace BK313 := Ext.a (hx_); replace HB := Ext.a (hbl_ _ _ HB.out GE313.out); clear hx_ hk_ hbl_))
    refine bodyPost_ret (results_cell_row rfl _ _ gb313 69 #[.bool true, .bool false, .bool false, .bool false, .bool false, .bool false, .bool false, .bool false, .bool false] (0, 0) _ rfl (by exact BK313.out) Try.underlying69 rfl (by kernel_rfl)) rfl ?_
    exact ⟨by first | rfl | (simp [errW_none, errW_some] <;> rfl) | (simp [*, errW_none, errW_some] <;> rfl), by exact Ext.s1 GE313.out HB.out⟩
   ·
    replace c6 := Bool.eq_false_iff.mpr c6; subst c6; rw [if_neg Bool.false_ne_true] at H
    by_cases c9 : a0 = 4
    ·
     rw [if_pos c9] at H; obtain ⟨c9b0, c9b1⟩ := Ext.eT c9; clear c9; obtain rfl := Option.some.inj H; have hcz10 := Ext.cells9 BK313.out; have hfz10 := Ext.froz9 BK313.out
     go_wp2_with (first | ((with_reducible refine gate_store (t := 69) (p := 2) rfl ?_); refine Ext.struct_store (hgd := ?hg) (hN := ?hn) (t := 69) (p := .tmp 2) (x := ?vo_w11) (ho := ?ho) (cells := #[.bool false, .bool true, .bool true, .bool false, .bool false, .bool false, .bool false, .bool false, .bool false]) (haddr := ?ha) (hx := ?hx) BK313.out rfl (by kernel_rfl) rfl ?_; (case ho => rfl); (case hg => rfl); (case hn => rfl); (case ha => rfl); (case hx => first | rfl | (go_simp; done)); intro w11 hx_ hk_ hbl_; replace BK313 := Ext.a (hx_); replace HB := Ext.a (hbl_ _ _ HB.out GE313.out); clear hx_ hk_ hbl_))
     refine bodyPost_ret (results_cell_row rfl _ _ gb313 69 #[.bool false, .bool true, .bool true, .bool false, .bool false, .bool false, .bool false, .bool false, .bool false] (0, 0) _ rfl (by exact BK313.out) Try.underlying69 rfl (by kernel_rfl)) rfl ?_
     exact ⟨by first | rfl | (simp [errW_none, errW_some] <;> rfl) | (simp [*, errW_none, errW_some] <;> rfl), by exact Ext.s1 GE313.out HB.out⟩
    ·
     rw [if_neg c9] at H; obtain ⟨c9b0, c9b1⟩ := Ext.eF c9
     by_cases c12 : a0 = 6
     ·
      rw [if_pos c12] at H; obtain ⟨c12b0, c12b1⟩ := Ext.eT c12; clear c12; obtain rfl := Option.some.inj H; have hcz13 := Ext.cells9 BK313.out; have hfz13 := Ext.froz9 BK313.out
      go_wp2_with (first | ((with_reducible refine gate_store (t := 69) (p := 2) rfl ?_); refine Ext.struct_store (hgd := ?hg) (hN := ?hn) (t := 69) (p := .tmp 2) (x := ?vo_w14) (ho := ?ho) (cells := #[.bool false, .bool false, .bool false, .bool true, .bool true, .bool false, .bool false, .bool false, .bool false]) (haddr := ?ha) (hx := ?hx) BK313.out rfl (by kernel_rfl) rfl ?_; (case ho => rfl); (case hg => rfl); (case hn => rfl); (case ha => rfl); (case hx => first | rfl | (go_simp; done)); intro w14 hx_ hk_ hbl_; replace BK313 := Ext.a (hx_); replace HB := Ext.a (hbl_ _ _ HB.out GE313.out); clear hx_ hk_ hbl_))
      refine bodyPost_ret (results_cell_row rfl _ _ gb313 69 #[.bool false, .bool false, .bool false, .bool true, .bool true, .bool false, .bool false, .bool false, .bool false] (0, 0) _ rfl (by exact BK313.out) Try.underlying69 rfl (by kernel_rfl)) rfl ?_
      exact ⟨by first | rfl | (simp [errW_none, errW_some] <;> rfl) | (simp [*, errW_none, errW_some] <;> rfl), by exact Ext.s1 GE313.out HB.out⟩
     ·
      rw [if_neg c12] at H; obtain ⟨c12b0, c12b1⟩ := Ext.eF c12; have HC15 := Aside0.mk H; clear H
      go_upto_if 15 with (fail)
      go_cut [15] (fun v15 wc => ∃ (kq : Nat) (x15_14 : Bool), v15 = .bool x15_14 ∧ Aside0 (terrierref20_used.j1 kq a0 x15_14 = some r) ∧ Aside0 (kq ≤ kj1) ∧ Aside0 (wc.heap[gb313]? = some (.cells #[.bool false, .bool false, .bool false, .bool false, .bool false, .bool false, .bool false, .bool false, .bool false] 69 (0, 0))) ∧ Aside0 (Below w.heap.size w wc))
      case first =>
       have H := HC15.out; clear HC15
       by_cases c16 : a0 = 8
       case' _ =>
        rw [if_pos c16] at H; obtain ⟨c16b0, c16b1⟩ := Ext.eT c16; clear c16
        (first | rw [c16b0] | (simp only [i64_w, i32_w]; rw [c16b0]) | skip)
       rotate_left 1
       case' _ =>
        rw [if_neg c16] at H; obtain ⟨c16b0, c16b1⟩ := Ext.eF c16
        (first | rw [c16b0] | (simp only [i64_w, i32_w]; rw [c16b0]) | skip)
       all_goals (have H' := Aside0.mk H; clear H; go_wp2; go_meet; (case rel => exact ⟨_, _, (by first | rfl | (simp; done) | (simp [*]; done)), H', ⟨by have := HJ1.out; first | omega | exact Nat.le_refl _⟩, ⟨by exact BK313.out⟩, ⟨by exact Ext.s1 GE313.out HB.out⟩⟩))
      case rest =>
       clear HC15; (try clear c1 c9b0 c9b1 c12b0 c12b1 c16b0 c16b1 hcz10 hcz13 hcz7 hfz10 hfz13 hfz7); obtain ⟨kq, x15_14, rfl, HA, HJ14, BK313, HB⟩ := hcut; cases kq with
       | zero => exact absurd HA.out (by simp [terrierref20_used.j1])
       | succ kj14 =>
        have H := HA.out; clear HA; simp only [terrierref20_used.j1] at H
        by_cases c17 : x15_14 = true
        ·
         subst c17; rw [if_pos rfl] at H; obtain rfl := Option.some.inj H; have hcz18 := Ext.cells9 BK313.out; have hfz18 := Ext.froz9 BK313.out
         go_wp2_with (first | ((with_reducible refine gate_store (t := 69) (p := 2) rfl ?_); refine Ext.struct_store (hgd := ?hg) (hN := ?hn) (t := 69) (p := .tmp 2) (x := ?vo_w19) (ho := ?ho) (cells := #[.bool false, .bool false, .bool true, .bool true, .bool true, .bool false, .bool false, .bool false, .bool false]) (haddr := ?ha) (hx := ?hx) BK313.out rfl (by kernel_rfl) rfl ?_; (case ho => rfl); (case hg => rfl); (case hn => rfl); (case ha => rfl); (case hx => first | rfl | (go_simp; done)); intro w19 hx_ hk_ hbl_; replace BK313 := Ext.a (hx_); replace HB := Ext.a (hbl_ _ _ HB.out GE313.out); clear hx_ hk_ hbl_))
         refine bodyPost_ret (results_cell_row rfl _ _ gb313 69 #[.bool false, .bool false, .bool true, .bool true, .bool true, .bool false, .bool false, .bool false, .bool false] (0, 0) _ rfl (by exact BK313.out) Try.underlying69 rfl (by kernel_rfl)) rfl ?_
         exact ⟨by first | rfl | (simp [errW_none, errW_some] <;> rfl) | (simp [*, errW_none, errW_some] <;> rfl), by exact Ext.s1 GE313.out HB.out⟩
        ·
         replace c17 := Bool.eq_false_iff.mpr c17; subst c17; rw [if_neg Bool.false_ne_true] at H
         by_cases c20 : a0 = 9
         ·
          rw [if_pos c20] at H; obtain ⟨c20b0, c20b1⟩ := Ext.eT c20; clear c20; obtain rfl := Option.some.inj H; have hcz21 := Ext.cells9 BK313.out; have hfz21 := Ext.froz9 BK313.out
          go_wp2_with (first | ((with_reducible refine gate_store (t := 69) (p := 2) rfl ?_); refine Ext.struct_store (hgd := ?hg) (hN := ?hn) (t := 69) (p := .tmp 2) (x := ?vo_w22) (ho := ?ho) (cells := #[.bool false, .bool false, .bool false, .bool true, .bool true, .bool true, .bool true, .bool false, .bool false]) (haddr := ?ha) (hx := ?hx) BK313.out rfl (by kernel_rfl) rfl ?_; (case ho => rfl); (case hg => rfl); (case hn => rfl); (case ha => rfl); (case hx => first | rfl | (go_simp; done)); intro w22 hx_ hk_ hbl_; replace BK313 := Ext.a (hx_); replace HB := Ext.a (hbl_ _ _ HB.out GE313.out); clear hx_ hk_ hbl_))
          refine bodyPost_ret (results_cell_row rfl _ _ gb313 69 #[.bool false, .bool false, .bool false, .bool true, .bool true, .bool true, .bool true, .bool false, .bool false] (0, 0) _ rfl (by exact BK313.out) Try.underlying69 rfl (by kernel_rfl)) rfl ?_
          exact ⟨by first | rfl | (simp [errW_none, errW_some] <;> rfl) | (simp [*, errW_none, errW_some] <;> rfl), by exact Ext.s1 GE313.out HB.out⟩
         ·
          rw [if_neg c20] at H; obtain ⟨c20b0, c20b1⟩ := Ext.eF c20
          by_cases c23 : a0 = 10
          ·
           rw [if_pos c23] at H; obtain ⟨c23b0, c23b1⟩ := Ext.eT c23; clear c23; obtain rfl := Option.some.inj H; have hcz24 := Ext.cells9 BK313.out; have hfz24 := Ext.froz9 BK313.out
           go_wp2_with (first | ((with_reducible refine gate_store (t := 69) (p := 2) rfl ?_); refine Ext.struct_store (hgd := ?hg) (hN := ?hn) (t := 69) (p := .tmp 2) (x := ?vo_w25) (ho := ?ho) (cells := #[.bool false, .bool false, .bool false, .bool false, .bool false, .bool false, .bool false, .bool true, .bool false]) (haddr := ?ha) (hx := ?hx) BK313.out rfl (by kernel_rfl) rfl ?_; (case ho => rfl); (case hg => rfl); (case hn => rfl); (case ha => rfl); (case hx => first | rfl | (go_simp; done)); intro w25 hx_ hk_ hbl_; replace BK313 := Ext.a (hx_); replace HB := Ext.a (hbl_ _ _ HB.out GE313.out); clear hx_ hk_ hbl_))
           refine bodyPost_ret (results_cell_row rfl _ _ gb313 69 #[.bool false, .bool false, .bool false, .bool false, .bool false, .bool false, .bool false, .bool true, .bool false] (0, 0) _ rfl (by exact BK313.out) Try.underlying69 rfl (by kernel_rfl)) rfl ?_
           exact ⟨by first | rfl | (simp [errW_none, errW_some] <;> rfl) | (simp [*, errW_none, errW_some] <;> rfl), by exact Ext.s1 GE313.out HB.out⟩
          ·
           rw [if_neg c23] at H; obtain ⟨c23b0, c23b1⟩ := Ext.eF c23
           by_cases c26 : a0 = 11
           ·
            rw [if_pos c26] at H; obtain ⟨c26b0, c26b1⟩ := Ext.eT c26; clear c26; obtain rfl := Option.some.inj H; have hcz27 := Ext.cells9 BK313.out; have hfz27 := Ext.froz9 BK313.out
            go_wp2_with (first | ((with_reducible refine gate_store (t := 69) (p := 2) rfl ?_); refine Ext.struct_store (hgd := ?hg) (hN := ?hn) (t := 69) (p := .tmp 2) (x := ?vo_w28) (ho := ?ho) (cells := #[.bool false, .bool false, .bool false, .bool true, .bool false, .bool false, .bool false, .bool false, .bool false]) (haddr := ?ha) (hx := ?hx) BK313.out rfl (by kernel_rfl) rfl ?_; (case ho => rfl); (case hg => rfl); (case hn => rfl); (case ha => rfl); (case hx => first | rfl | (go_simp; done)); intro w28 hx_ hk_ hbl_; replace BK313 := Ext.a (hx_); replace HB := Ext.a (hbl_ _ _ HB.out GE313.out); clear hx_ hk_ hbl_))
            refine bodyPost_ret (results_cell_row rfl _ _ gb313 69 #[.bool false, .bool false, .bool false, .bool true, .bool false, .bool false, .bool false, .bool false, .bool false] (0, 0) _ rfl (by exact BK313.out) Try.underlying69 rfl (by kernel_rfl)) rfl ?_
            exact ⟨by first | rfl | (simp [errW_none, errW_some] <;> rfl) | (simp [*, errW_none, errW_some] <;> rfl), by exact Ext.s1 GE313.out HB.out⟩
           ·
            rw [if_neg c26] at H; obtain ⟨c26b0, c26b1⟩ := Ext.eF c26
            by_cases c29 : a0 = 14
            ·
             rw [if_pos c29] at H; obtain ⟨c29b0, c29b1⟩ := Ext.eT c29; clear c29; obtain rfl := Option.some.inj H; have hcz30 := Ext.cells9 BK313.out; have hfz30 := Ext.froz9 BK313.out
             go_wp2_with (first | ((with_reducible refine gate_store (t := 69) (p := 2) rfl ?_); refine Ext.struct_store (hgd := ?hg) (hN := ?hn) (t := 69) (p := .tmp 2) (x := ?vo_w31) (ho := ?ho) (cells := #[.bool false, .bool false, .bool false, .bool false, .bool false, .bool false, .bool false, .bool false, .bool true]) (haddr := ?ha) (hx := ?hx) BK313.out rfl (by kernel_rfl) rfl ?_; (case ho => rfl); (case hg => rfl); (case hn => rfl); (case ha => rfl); (case hx => first | rfl | (go_simp; done)); intro w31 hx_ hk_ hbl_; replace BK313 := Ext.a (hx_); replace HB := Ext.a (hbl_ _ _ HB.out GE313.out); clear hx_ hk_ hbl_))
             refine bodyPost_ret (results_cell_row rfl _ _ gb313 69 #[.bool false, .bool false, .bool false, .bool false, .bool false, .bool false, .bool false, .bool false, .bool true] (0, 0) _ rfl (by exact BK313.out) Try.underlying69 rfl (by kernel_rfl)) rfl ?_
             exact ⟨by first | rfl | (simp [errW_none, errW_some] <;> rfl) | (simp [*, errW_none, errW_some] <;> rfl), by exact Ext.s1 GE313.out HB.out⟩
            ·
             rw [if_neg c29] at H; obtain ⟨c29b0, c29b1⟩ := Ext.eF c29
             by_cases c32 : a0 = 15
             ·
              rw [if_pos c32] at H; obtain ⟨c32b0, c32b1⟩ := Ext.eT c32; clear c32; obtain rfl := Option.some.inj H; have hcz33 := Ext.cells9 BK313.out; have hfz33 := Ext.froz9 BK313.out
              go_wp2_with (first | ((with_reducible refine gate_store (t := 69) (p := 2) rfl ?_); refine Ext.struct_store (hgd := ?hg) (hN := ?hn) (t := 69) (p := .tmp 2) (x := ?vo_w34) (ho := ?ho) (cells := #[.bool false, .bool false, .bool false, .bool false, .bool true, .bool true, .bool false, .bool false, .bool false]) (haddr := ?ha) (hx := ?hx) BK313.out rfl (by kernel_rfl) rfl ?_; (case ho => rfl); (case hg => rfl); (case hn => rfl); (case ha => rfl); (case hx => first | rfl | (go_simp; done)); intro w34 hx_ hk_ hbl_; replace BK313 := Ext.a (hx_); replace HB := Ext.a (hbl_ _ _ HB.out GE313.out); clear hx_ hk_ hbl_))
              refine bodyPost_ret (results_cell_row rfl _ _ gb313 69 #[.bool false, .bool false, .bool false, .bool false, .bool true, .bool true, .bool false, .bool false, .bool false] (0, 0) _ rfl (by exact BK313.out) Try.underlying69 rfl (by kernel_rfl)) rfl ?_
              exact ⟨by first | rfl | (simp [errW_none, errW_some] <;> rfl) | (simp [*, errW_none, errW_some] <;> rfl), by exact Ext.s1 GE313.out HB.out⟩
             ·
              rw [if_neg c32] at H; obtain ⟨c32b0, c32b1⟩ := Ext.eF c32; obtain rfl := Option.some.inj H; have hcz35 := Ext.cells9 BK313.out; have hfz35 := Ext.froz9 BK313.out
              go_wp2_with (first | ((with_reducible refine gate_store (t := 69) (p := 2) rfl ?_); refine Ext.struct_store (hgd := ?hg) (hN := ?hn) (t := 69) (p := .tmp 2) (x := ?vo_w36) (ho := ?ho) (cells := #[.bool false, .bool false, .bool false, .bool false, .bool false, .bool false, .bool false, .bool false, .bool false]) (haddr := ?ha) (hx := ?hx) BK313.out rfl (by kernel_rfl) rfl ?_; (case ho => rfl); (case hg => rfl); (case hn => rfl); (case ha => rfl); (case hx => first | rfl | (go_simp; done)); intro w36 hx_ hk_ hbl_; replace BK313 := Ext.a (hx_); replace HB := Ext.a (hbl_ _ _ HB.out GE313.out); clear hx_ hk_ hbl_))
              refine bodyPost_ret (results_cell_row rfl _ _ gb313 69 #[.bool false, .bool false, .bool false, .bool false, .bool false, .bool false, .bool false, .bool false, .bool false] (0, 0) _ rfl (by exact BK313.out) Try.underlying69 rfl (by kernel_rfl)) rfl ?_
              exact ⟨by first | rfl | (simp [errW_none, errW_some] <;> rfl) | (simp [*, errW_none, errW_some] <;> rfl), by exact Ext.s1 GE313.out HB.out⟩



/-! ### terrierref20_zeroTold: function 27 -/
def terrierref20_zeroTold.f (a0_0 : Int) (l0_1 : List (S79)) (a0_2 : Int) (a0_3 : Bool) (l0_4 : List (S79)) (a0_5 : Int) : Option (Bool) := if a0_0 = 0 then (if (l0_1.length : Int) = 0 then (if a0_2 = 0 then (if a0_3 = true then (some false) else (if (l0_4.length : Int) = 0 then (some (a0_5 == 0)) else (some false))) else (some false)) else (some false)) else (some false)
set_option maxHeartbeats 8000000 in
set_option maxRecDepth 100000 in
theorem terrierref20_zeroTold.calls (a0_0 : Int) (A0_1 : Option Addr) (c0_1 : Nat) (l0_1 : List (S79)) (a0_2 : Int) (a0_3 : Bool) (A0_4 : Option Addr) (c0_4 : Nat) (l0_4 : List (S79)) (a0_5 : Int) (r : Bool) (w : World) (hr0_1 : Kd.C k79 w A0_1 l0_1.length l0_1) (hc0_1 : l0_1.length ≤ c0_1) (hr0_4 : Kd.C k79 w A0_4 l0_4.length l0_4) (hc0_4 : l0_4.length ≤ c0_4) (h : terrierref20_zeroTold.f a0_0 l0_1 a0_2 a0_3 l0_4 a0_5 = some r) :
  Calls Try.prog 27 #[.agg #[.int .i64 a0_0, .slice A0_1 l0_1.length c0_1, .int .i64 a0_2, .bool a0_3, .slice A0_4 l0_4.length c0_4, .int .i64 a0_5]] w fun e w' => e = .returned (.bool r) ∧ Below w.heap.size w w' := by
 have hu27 := Try.underlying27; have HR0_1 := Aside0.mk hr0_1; have HC0_1 := Aside0.mk hc0_1; clear hr0_1 hc0_1; have HR0_4 := Aside0.mk hr0_4; have HC0_4 := Aside0.mk hc0_4; clear hr0_4 hc0_4; have HB := Ext.a (Below.refl w.heap.size w); have H := h; unfold terrierref20_zeroTold.f at H; clear h
 by_cases c2 : a0_0 = 0
 ·
  rw [if_pos c2] at H; obtain ⟨c2b0, c2b1⟩ := Ext.eT c2; clear c2
  by_cases c3 : (l0_1.length : Int) = 0
  ·
   rw [if_pos c3] at H; obtain ⟨c3b0, c3b1⟩ := Ext.eT c3; clear c3
   by_cases c4 : a0_2 = 0
   ·
    rw [if_pos c4] at H; obtain ⟨c4b0, c4b1⟩ := Ext.eT c4; clear c4
    by_cases c5 : a0_3 = true
    ·
     subst c5; rw [if_pos rfl] at H; obtain rfl := Option.some.inj H
     go_enter Try.func27, Try.ntmps27
     go_wp2_with (first | ((with_reducible refine gate_dst (N := 1) rfl ?_); (try (refine gate_guard (by rfl) ?_; dsimp only)); refine box_event ?hg (N := 1) ?hd (cs := #[.int .i64 a0_0, .slice A0_1 l0_1.length c0_1, .int .i64 a0_2, .bool true, .slice A0_4 l0_4.length c0_4, .int .i64 a0_5]) (t := 27) ?hr ?_; (case hd => rfl); (case hg => rfl); (case hr => first | (go_simp; done) | (go_simp; rfl)); intro gb314 hg w6 hbox hb; have BK314 := Ext.a (hbox); have GW314 := Ext.gw hg (below_size (Ext.nB HB.out)); have GE314 := Ext.gw hg (below_size (Ext.nB HB.out)); replace HB := Ext.a (below_step (Ext.nB HB.out) hb); clear hb hbox hg; obtain ⟨hcz7_0, hcz7_1, hcz7_2, hcz7_3, hcz7_4, hcz7_5⟩ := Ext.cells6 BK314.out; obtain ⟨hfz7_0, hfz7_1, hfz7_2, hfz7_3, hfz7_4, hfz7_5⟩ := Ext.froz6 BK314.out))
     go_ret
     exact ⟨by first | rfl | (simp [errW_none, errW_some] <;> rfl) | (simp [*, errW_none, errW_some] <;> rfl), by exact Ext.s1 GE314.out HB.out⟩
    ·
     replace c5 := Bool.eq_false_iff.mpr c5; subst c5; rw [if_neg Bool.false_ne_true] at H
     by_cases c8 : (l0_4.length : Int) = 0
     case' _ =>
      rw [if_pos c8] at H; obtain ⟨c8b0, c8b1⟩ := Ext.eT c8; clear c8
     rotate_left 1
     case' _ =>
      rw [if_neg c8] at H; obtain ⟨c8b0, c8b1⟩ := Ext.eF c8
      have c8b2 : ¬ (l0_4 = []) := fun h_ => c8 (by rw [h_]; rfl)
     all_goals (obtain rfl := Option.some.inj H; go_enter Try.func27, Try.ntmps27; go_wp2_with (first | ((with_reducible refine gate_dst (N := 1) rfl ?_); (try (refine gate_guard (by rfl) ?_; dsimp only)); refine box_event ?hg (N := 1) ?hd (cs := #[.int .i64 a0_0, .slice A0_1 l0_1.length c0_1, .int .i64 a0_2, .bool false, .slice A0_4 l0_4.length c0_4, .int .i64 a0_5]) (t := 27) ?hr ?_; (case hd => rfl); (case hg => rfl); (case hr => first | (go_simp; done) | (go_simp; rfl)); intro gb314 hg q0_ hbox hb; have BK314 := Ext.a (hbox); have GW314 := Ext.gw hg (below_size (Ext.nB HB.out)); have GE314 := Ext.gw hg (below_size (Ext.nB HB.out)); replace HB := Ext.a (below_step (Ext.nB HB.out) hb); clear hb hbox hg; obtain ⟨q1_, q2_, q3_, q4_, q5_, q6_⟩ := Ext.cells6 BK314.out; obtain ⟨q7_, q8_, q9_, q10_, q11_, q12_⟩ := Ext.froz6 BK314.out)); go_ret; exact ⟨by first | rfl | (simp [errW_none, errW_some] <;> rfl) | (simp [*, errW_none, errW_some] <;> rfl), by exact Ext.s1 GE314.out HB.out⟩)
   ·
    rw [if_neg c4] at H; obtain ⟨c4b0, c4b1⟩ := Ext.eF c4; obtain rfl := Option.some.inj H
    go_enter Try.func27, Try.ntmps27
    go_wp2_with (first | ((with_reducible refine gate_dst (N := 1) rfl ?_); (try (refine gate_guard (by rfl) ?_; dsimp only)); refine box_event ?hg (N := 1) ?hd (cs := #[.int .i64 a0_0, .slice A0_1 l0_1.length c0_1, .int .i64 a0_2, .bool a0_3, .slice A0_4 l0_4.length c0_4, .int .i64 a0_5]) (t := 27) ?hr ?_; (case hd => rfl); (case hg => rfl); (case hr => first | (go_simp; done) | (go_simp; rfl)); intro gb314 hg w13 hbox hb; have BK314 := Ext.a (hbox); have GW314 := Ext.gw hg (below_size (Ext.nB HB.out)); have GE314 := Ext.gw hg (below_size (Ext.nB HB.out)); replace HB := Ext.a (below_step (Ext.nB HB.out) hb); clear hb hbox hg; obtain ⟨hcz14_0, hcz14_1, hcz14_2, hcz14_3, hcz14_4, hcz14_5⟩ := Ext.cells6 BK314.out; obtain ⟨hfz14_0, hfz14_1, hfz14_2, hfz14_3, hfz14_4, hfz14_5⟩ := Ext.froz6 BK314.out))
    go_ret
    exact ⟨by first | rfl | (simp [errW_none, errW_some] <;> rfl) | (simp [*, errW_none, errW_some] <;> rfl), by exact Ext.s1 GE314.out HB.out⟩
  ·
   rw [if_neg c3] at H; obtain ⟨c3b0, c3b1⟩ := Ext.eF c3
   have c3b2 : ¬ (l0_1 = []) := fun h_ => c3 (by rw [h_]; rfl)
   obtain rfl := Option.some.inj H
   go_enter Try.func27, Try.ntmps27
   go_wp2_with (first | ((with_reducible refine gate_dst (N := 1) rfl ?_); (try (refine gate_guard (by rfl) ?_; dsimp only)); refine box_event ?hg (N := 1) ?hd (cs := #[.int .i64 a0_0, .slice A0_1 l0_1.length c0_1, .int .i64 a0_2, .bool a0_3, .slice A0_4 l0_4.length c0_4, .int .i64 a0_5]) (t := 27) ?hr ?_; (case hd => rfl); (case hg => rfl); (case hr => first | (go_simp; done) | (go_simp; rfl)); intro gb314 hg w15 hbox hb; have BK314 := Ext.a (hbox); have GW314 := Ext.gw hg (below_size (Ext.nB HB.out)); have GE314 := Ext.gw hg (below_size (Ext.nB HB.out)); replace HB := Ext.a (below_step (Ext.nB HB.out) hb); clear hb hbox hg; obtain ⟨hcz16_0, hcz16_1, hcz16_2, hcz16_3, hcz16_4, hcz16_5⟩ := Ext.cells6 BK314.out; obtain ⟨hfz16_0, hfz16_1, hfz16_2, hfz16_3, hfz16_4, hfz16_5⟩ := Ext.froz6 BK314.out))
   go_ret
   exact ⟨by first | rfl | (simp [errW_none, errW_some] <;> rfl) | (simp [*, errW_none, errW_some] <;> rfl), by exact Ext.s1 GE314.out HB.out⟩
 ·
  rw [if_neg c2] at H; obtain ⟨c2b0, c2b1⟩ := Ext.eF c2; obtain rfl := Option.some.inj H
  go_enter Try.func27, Try.ntmps27
  go_wp2_with (first | ((with_reducible refine gate_dst (N := 1) rfl ?_); (try (refine gate_guard (by rfl) ?_; dsimp only)); refine box_event ?hg (N := 1) ?hd (cs := #[.int .i64 a0_0, .slice A0_1 l0_1.length c0_1, .int .i64 a0_2, .bool a0_3, .slice A0_4 l0_4.length c0_4, .int .i64 a0_5]) (t := 27) ?hr ?_; (case hd => rfl); (case hg => rfl); (case hr => first | (go_simp; done) | (go_simp; rfl)); intro gb314 hg w17 hbox hb; have BK314 := Ext.a (hbox); have GW314 := Ext.gw hg (below_size (Ext.nB HB.out)); have GE314 := Ext.gw hg (below_size (Ext.nB HB.out)); replace HB := Ext.a (below_step (Ext.nB HB.out) hb); clear hb hbox hg; obtain ⟨hcz18_0, hcz18_1, hcz18_2, hcz18_3, hcz18_4, hcz18_5⟩ := Ext.cells6 BK314.out; obtain ⟨hfz18_0, hfz18_1, hfz18_2, hfz18_3, hfz18_4, hfz18_5⟩ := Ext.froz6 BK314.out))
  go_ret
  exact ⟨by first | rfl | (simp [errW_none, errW_some] <;> rfl) | (simp [*, errW_none, errW_some] <;> rfl), by exact Ext.s1 GE314.out HB.out⟩



/-! ### terrierref20_out_flag: function 29 -/
def terrierref20_out_flag.f (s0_0 : List Int) (s0_1 : Bool) (a1 : Bool) : Option (List Int × Bool) := if a1 = true then ((terrierref20_out_add.f s0_0 s0_1 (([1] : List Int))).bind fun bt318 => (some (bt318.1, bt318.2))) else ((terrierref20_out_add.f s0_0 s0_1 (([0] : List Int))).bind fun bt323 => (some (bt323.1, bt323.2)))
set_option maxHeartbeats 8000000 in
set_option maxRecDepth 100000 in
theorem terrierref20_out_flag.calls (g : Nat) (s0_0 : List Int) (s0_1 : Bool) (a1 : Bool) (r1 : List Int) (r2 : Bool) (w wS : World) (hI : IsS66 w wS wS g s0_0 s0_1) (hB : Below w.heap.size w wS) (h : terrierref20_out_flag.f s0_0 s0_1 a1 = some (r1, r2)) :
  Calls Try.prog 29 #[.pointer (some ⟨g, 0, none⟩), .bool a1] wS fun e w' => e = .returned (.tuple #[]) ∧ IsS66 w wS w' g r1 r2 ∧ Below w.heap.size w w' := by
 have HI0 := Aside0.mk hI; have HB := Aside0.mk hB; clear hI hB; have H := h; unfold terrierref20_out_flag.f at H; clear h
 by_cases c3 : a1 = true
 ·
  subst c3; rw [if_pos rfl] at H; obtain ⟨y315, hy315⟩ : ∃ y_ : List Int, y_ = (([1] : List Int)) := ⟨_, rfl⟩
  replace H : ((terrierref20_out_add.f s0_0 s0_1 y315).bind fun bt318 => (some (bt318.1, bt318.2))) = some (r1, r2) := by first | (rw [hy315]; with_reducible exact H) | (have H2_ := (Option.bind_some _ _).symm.trans H; rw [hy315]; with_reducible exact H2_) | (have H2_ := (Option.bind_some _ _).symm.trans H; with_reducible exact H2_) | with_reducible exact H | (rw [hy315]; exact H) | exact H
  have Ny315 := Aside0.mk hy315; clear hy315; replace H := Option.bind_eq_some_iff.mp H; obtain ⟨⟨t318, t319⟩, A40, H⟩ := H; (try dsimp only at H); have A4 := Aside0.mk A40; clear A40; simp only [Option.some.injEq, Prod.mk.injEq] at H; obtain ⟨rfl, rfl⟩ := H
  go_enter Try.func29, Try.ntmps29
  go_wp2_with (first | ((with_reducible refine gate_dst (N := 6) rfl ?_); refine Kd.R_lit (Kd.int .u8) _ 5 ?hg (N := 6) ?hd (xs := ([1] : List Int)) (inner := [.int .u8 1]) (ok := fun _ => True) (okp := fun _ => True) ?hr ?hp (fun _ hk => hk) trivial (Below.refl _ _) (Nat.le_refl _) (by simp) ?_; (case hd => rfl); (case hg => rfl); (case hr => first | (go_simp; done) | (go_simp; rfl)); (case hp => exact (Reps.one (show Kd.M (Kd.int .u8) _ _ _ 1 [.int .u8 1] from rfl) (Reps.none _ _))); intro v316 w5 ho6 hb hg_ hnew_; clear hg_ hnew_; (first | rw [← Ny315.out] at ho6 | (simp only [Int.reduceToNat] at ho6; rw [← Ny315.out] at ho6)); have HO317 := Ext.a (Kd.R_lower ho6 (below_size (Ext.s1 (IsS66.ge HI0.out) HB.out))); replace HB := Ext.a (below_step (Ext.s1 (IsS66.ge HI0.out) HB.out) hb); replace HI0 := Ext.a (IsS66.below (IsS66.go HI0.out) hb); clear hb ho6; obtain ⟨Ao7, co7, eo7⟩ := Kd.R_slice HO317.out; subst eo7) | ((with_reducible refine gate_callee (f := 32) rfl ?_); refine Ext.gs (some 7) rfl rfl Try.func32 #[.pointer (some ⟨g, 0, none⟩), .slice Ao7 y315.length co7] rfl ?_; (with_reducible refine (terrierref20_out_add.calls g s0_0 s0_1 _ _ y315 t318 t319 w _ ?side1 ?side2 ?side3 ?side4 A4.out).mono ?_); (case side1 => refine IsS66.now (wF := wS) ?_; repeat (first | (with_reducible first | exact HI0.out | apply IsS66.alloc | apply IsS66.drewN | apply IsS66.drew | apply IsS66.set_1) | exact HI0.out)); (case side2 => exact Ext.s1 (IsS66.ge HI0.out) HB.out); (case side3 => exact Ext.nC (Kd.R_reads' HO317.out).2.2); (case side4 => exact (Kd.R_reads' HO317.out).2.1); rintro e w8 ⟨rfl, hi, hb⟩; refine ⟨_, rfl, ?_⟩; replace HB := Ext.a (hb); replace HI0 := Ext.a (IsS66.then (IsS66.go HI0.out) hi); clear HO317; (try clear hb hi)))
  first | go_end0 | ((try simp only [Exit.inBlock, Exit.then]); refine bodyPost_ret (results_none rfl _ _ _) rfl ?_)
  exact ⟨by first | rfl | (simp [errW_none, errW_some] <;> rfl) | (simp [*, errW_none, errW_some] <;> rfl), by exact IsS66.go HI0.out, by exact Ext.s1 (IsS66.ge HI0.out) HB.out⟩
 ·
  replace c3 := Bool.eq_false_iff.mpr c3; subst c3; rw [if_neg Bool.false_ne_true] at H; obtain ⟨y320, hy320⟩ : ∃ y_ : List Int, y_ = (([0] : List Int)) := ⟨_, rfl⟩
  replace H : ((terrierref20_out_add.f s0_0 s0_1 y320).bind fun bt323 => (some (bt323.1, bt323.2))) = some (r1, r2) := by first | (rw [hy320]; with_reducible exact H) | (have H2_ := (Option.bind_some _ _).symm.trans H; rw [hy320]; with_reducible exact H2_) | (have H2_ := (Option.bind_some _ _).symm.trans H; with_reducible exact H2_) | with_reducible exact H | (rw [hy320]; exact H) | exact H
  have Ny320 := Aside0.mk hy320; clear hy320; replace H := Option.bind_eq_some_iff.mp H; obtain ⟨⟨t323, t324⟩, A90, H⟩ := H; (try dsimp only at H); have A9 := Aside0.mk A90; clear A90; simp only [Option.some.injEq, Prod.mk.injEq] at H; obtain ⟨rfl, rfl⟩ := H
  go_enter Try.func29, Try.ntmps29
  go_wp2_with (first | ((with_reducible refine gate_dst (N := 9) rfl ?_); refine Kd.R_lit (Kd.int .u8) _ 5 ?hg (N := 9) ?hd (xs := ([0] : List Int)) (inner := [.int .u8 0]) (ok := fun _ => True) (okp := fun _ => True) ?hr ?hp (fun _ hk => hk) trivial (Below.refl _ _) (Nat.le_refl _) (by simp) ?_; (case hd => rfl); (case hg => rfl); (case hr => first | (go_simp; done) | (go_simp; rfl)); (case hp => exact (Reps.one (show Kd.M (Kd.int .u8) _ _ _ 0 [.int .u8 0] from rfl) (Reps.none _ _))); intro v321 w10 ho11 hb hg_ hnew_; clear hg_ hnew_; (first | rw [← Ny320.out] at ho11 | (simp only [Int.reduceToNat] at ho11; rw [← Ny320.out] at ho11)); have HO322 := Ext.a (Kd.R_lower ho11 (below_size (Ext.s1 (IsS66.ge HI0.out) HB.out))); replace HB := Ext.a (below_step (Ext.s1 (IsS66.ge HI0.out) HB.out) hb); replace HI0 := Ext.a (IsS66.below (IsS66.go HI0.out) hb); clear hb ho11; obtain ⟨Ao12, co12, eo12⟩ := Kd.R_slice HO322.out; subst eo12) | ((with_reducible refine gate_callee (f := 32) rfl ?_); refine Ext.gs (some 10) rfl rfl Try.func32 #[.pointer (some ⟨g, 0, none⟩), .slice Ao12 y320.length co12] rfl ?_; (with_reducible refine (terrierref20_out_add.calls g s0_0 s0_1 _ _ y320 t323 t324 w _ ?side1 ?side2 ?side3 ?side4 A9.out).mono ?_); (case side1 => refine IsS66.now (wF := wS) ?_; repeat (first | (with_reducible first | exact HI0.out | apply IsS66.alloc | apply IsS66.drewN | apply IsS66.drew | apply IsS66.set_1) | exact HI0.out)); (case side2 => exact Ext.s1 (IsS66.ge HI0.out) HB.out); (case side3 => exact Ext.nC (Kd.R_reads' HO322.out).2.2); (case side4 => exact (Kd.R_reads' HO322.out).2.1); rintro e w13 ⟨rfl, hi, hb⟩; refine ⟨_, rfl, ?_⟩; replace HB := Ext.a (hb); replace HI0 := Ext.a (IsS66.then (IsS66.go HI0.out) hi); clear HO322; (try clear hb hi)))
  first | go_end0 | ((try simp only [Exit.inBlock, Exit.then]); refine bodyPost_ret (results_none rfl _ _ _) rfl ?_)
  exact ⟨by first | rfl | (simp [errW_none, errW_some] <;> rfl) | (simp [*, errW_none, errW_some] <;> rfl), by exact IsS66.go HI0.out, by exact Ext.s1 (IsS66.ge HI0.out) HB.out⟩

end Go.Proofs.Ytlhjdmpclfhoeaa.PC
