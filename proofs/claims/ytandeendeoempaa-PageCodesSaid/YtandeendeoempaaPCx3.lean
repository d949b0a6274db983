-- Written by wip/printx.py, a program of this work over the kit's print, for this claim.
import Derived.Test.YtandeendeoempaaPCx0
import Derived.Test.YtandeendeoempaaPCx2
namespace Go.Proofs.Ytandeendeoempaa.PC
open Go.RowKit Go.Proofs.YtandeendeoempaaW.PrintWords Go.Proofs.YtandeendeoempaaW.PrintLast Go.Proofs.YtandeendeoempaaW.PrintMore
attribute [local go_sem] max2_int min2_int max_two min_two max_three min_three max_four min_four   -- for this text's walks alone
attribute [local go_sem] Ext.pick_u8 Ext.pick_u32 Ext.pick_u64
set_option linter.unusedVariables false
set_option linter.unusedSimpArgs false



/-! ### page_item: function 28 -/
def page_item.j0 : Nat → Bool → List Int → List Int → Int → Int → Option (Bool)
 | 0, _, _, _, _, _ => none
 | k + 1, x16, x107000, x107001, x107002, x107003 => if x16 = true then (some false) else (if x107002 ≤ 64 then (if (x107001.length : Int) = x107002 then (some (x107003 == 0)) else (some false)) else (if (x107001.length : Int) = 0 then ((page_id.f x107003).bind fun t108 => (some t108)) else (some false)))
def page_item.f (k : Nat) (l0_0 : List Int) (l0_1 : List Int) (a0_2 : Int) (a0_3 : Int) : Option (Bool) := (page_key.f l0_0).bind fun t107 => (if t107 = true then (if a0_2 < 0 then (page_item.j0 k true l0_0 l0_1 a0_2 a0_3) else (page_item.j0 k (decide (a0_2 > 4096)) l0_0 l0_1 a0_2 a0_3)) else (page_item.j0 k true l0_0 l0_1 a0_2 a0_3))
theorem page_item.mono_l : ∀ k, (∀ y0 y1 y2 y3 y4, LeO (page_item.j0 k y0 y1 y2 y3 y4) (page_item.j0 (k + 1) y0 y1 y2 y3 y4))
 | 0 => fun _ _ _ _ _ r h => by simp [page_item.j0] at h
 | k + 1 => by
  have ih0 := page_item.mono_l k
  ·
   intro y0 y1 y2 y3 y4
   unfold page_item.j0
   repeat' first
   | (with_reducible exact ih0 _ _ _ _ _)
   | (with_reducible exact LeO.refl _)
   | (with_reducible exact LeO.none _)
   | (with_reducible refine LeO.ite ?_ ?_)
   | (with_reducible refine LeO.bind ?_ (fun _ => ?_))
   | exact ih0 _ _ _ _ _
   | exact LeO.none _
   | refine LeO.ite ?_ ?_
   | refine LeO.bind ?_ (fun _ => ?_)
theorem page_item.mono : ∀ a0 a1 a2 a3 k, LeO (page_item.f k a0 a1 a2 a3) (page_item.f (k + 1) a0 a1 a2 a3) := by
 intro a0 a1 a2 a3 k
 have ih0 := page_item.mono_l k; unfold page_item.f
 repeat' first
   | (with_reducible exact ih0 _ _ _ _ _)
   | (with_reducible exact LeO.refl _)
   | (with_reducible exact LeO.none _)
   | (with_reducible refine LeO.ite ?_ ?_)
   | (with_reducible refine LeO.bind ?_ (fun _ => ?_))
   | exact ih0 _ _ _ _ _
   | exact LeO.none _
   | refine LeO.ite ?_ ?_
   | refine LeO.bind ?_ (fun _ => ?_)
set_option maxHeartbeats 8000000 in
set_option maxRecDepth 100000 in
theorem page_item.calls (k : Nat) (A0_0 : Option Addr) (c0_0 : Nat) (l0_0 : List Int) (A0_1 : Option Addr) (c0_1 : Nat) (l0_1 : List Int) (a0_2 : Int) (a0_3 : Int) (r : Bool) (w : World) (hr0_0 : Kd.C (Kd.int .u8) w A0_0 l0_0.length l0_0) (hc0_0 : l0_0.length ≤ c0_0) (hr0_1 : Kd.C (Kd.int .u8) w A0_1 l0_1.length l0_1) (hc0_1 : l0_1.length ≤ c0_1) (h : page_item.f k l0_0 l0_1 a0_2 a0_3 = some r) :
  Calls Try.prog 28 #[.agg #[.slice A0_0 l0_0.length c0_0, .slice A0_1 l0_1.length c0_1, .int .i64 a0_2, .int .i64 a0_3]] w fun e w' => e = .returned (.bool r) ∧ Below w.heap.size w w' := by
 have hu44 := Try.underlying44; have HR0_0 := Aside0.mk hr0_0; have HC0_0 := Aside0.mk hc0_0; clear hr0_0 hc0_0; have HR0_1 := Aside0.mk hr0_1; have HC0_1 := Aside0.mk hc0_1; clear hr0_1 hc0_1; have HB := Ext.a (Below.refl w.heap.size w); have H := h; unfold page_item.f at H; clear h; have HC2 := Aside0.mk H; clear H
 go_enter Try.func28, Try.ntmps28
 go_upto_region 1 with (first | ((with_reducible refine gate_dst (N := 1) rfl ?_); refine box_event ?hg (N := 1) ?hd (cs := #[.slice A0_0 l0_0.length c0_0, .slice A0_1 l0_1.length c0_1, .int .i64 a0_2, .int .i64 a0_3]) (t := 44) ?hr ?_; (case hd => rfl); (case hg => rfl); (case hr => first | (go_simp; done) | (go_simp; rfl)); intro gb106 hg w3 hbox hb; have BK106 := Ext.a (hbox); have GW106 := Ext.gw hg (below_size (Ext.nB HB.out)); have GE106 := Ext.gw hg (below_size (Ext.nB HB.out)); replace HB := Ext.a (below_step (Ext.nB HB.out) hb); clear hb hbox hg))
 (try simp only [Act.put, Ext.sb, Ext.sz, Ext.ss])
 go_cut [16] (fun v16 wc => ∃ (kq : Nat) (x16_1 : Bool), v16 = .bool x16_1 ∧ Aside0 (page_item.j0 kq x16_1 l0_0 l0_1 a0_2 a0_3 = some r) ∧ Aside0 (kq ≤ k) ∧ Aside0 (wc.heap[gb106]? = some (.cells #[(.slice A0_0 l0_0.length c0_0), (.slice A0_1 l0_1.length c0_1), .int .i64 a0_2, .int .i64 a0_3] 44 (0, 0))) ∧ Aside0 (Below w.heap.size w wc))
 case first =>
  have H := HC2.out; clear HC2; replace H := Option.bind_eq_some_iff.mp H; obtain ⟨t107, A40, H⟩ := H; (try dsimp only at H); have A4 := Aside0.mk A40; clear A40
  by_cases c5 : t107 = true
  ·
   subst c5; rw [if_pos rfl] at H
   by_cases c6 : a0_2 < 0
   ·
    rw [if_pos c6] at H; have c6b0 := decide_eq_true c6; clear c6
    (first | rw [c6b0] | (simp only [i64_w, i32_w]; rw [c6b0]) | skip)
    have H' := Aside0.mk H; clear H; obtain ⟨hcz7_0, hcz7_1, hcz7_2, hcz7_3⟩ := Ext.cells4 BK106.out; obtain ⟨hfz7_0, hfz7_1, hfz7_2, hfz7_3⟩ := Ext.froz4 BK106.out
    go_wp2_with (first | ((with_reducible refine gate_callee (f := 30) rfl ?_); refine Ext.gs (some 5) rfl rfl Try.func30 #[.slice A0_0 l0_0.length c0_0] rfl ?_; (with_reducible refine (page_key.calls _ _ l0_0 true _ ?side1 ?side2 A4.out).mono ?_); (case side1 => first | exact Ext.kC HR0_0.out HB.out | exact Ext.nC HR0_0.out); (case side2 => exact HC0_0.out); rintro e w' ⟨rfl, ⟨nd, rfl⟩⟩; refine ⟨_, rfl, ?_⟩))
    go_meet
    case rel => exact ⟨_, (true), (by first | rfl | (simp; done) | (simp [*]; done)), H', ⟨by first | omega | exact Nat.le_refl _⟩, ⟨by (with_reducible repeat (first | refine blk_drewN ?_ _ | refine blk_drew ?_ | refine blk_alloc ?_ _)); exact BK106.out⟩, ⟨by exact Ext.s1 GE106.out HB.out⟩⟩
   ·
    rw [if_neg c6] at H; have c6b0 := decide_eq_false c6; clear c6
    (first | rw [c6b0] | (simp only [i64_w, i32_w]; rw [c6b0]) | skip)
    have H' := Aside0.mk H; clear H; obtain ⟨hcz8_0, hcz8_1, hcz8_2, hcz8_3⟩ := Ext.cells4 BK106.out; obtain ⟨hfz8_0, hfz8_1, hfz8_2, hfz8_3⟩ := Ext.froz4 BK106.out
    go_wp2_with (first | ((with_reducible refine gate_callee (f := 30) rfl ?_); refine Ext.gs (some 5) rfl rfl Try.func30 #[.slice A0_0 l0_0.length c0_0] rfl ?_; (with_reducible refine (page_key.calls _ _ l0_0 true _ ?side1 ?side2 A4.out).mono ?_); (case side1 => first | exact Ext.kC HR0_0.out HB.out | exact Ext.nC HR0_0.out); (case side2 => exact HC0_0.out); rintro e w' ⟨rfl, ⟨nd, rfl⟩⟩; refine ⟨_, rfl, ?_⟩))
    go_meet
    case rel => exact ⟨_, (decide (a0_2 > 4096)), (by first | rfl | (simp; done) | (simp [*]; done)), H', ⟨by first | omega | exact Nat.le_refl _⟩, ⟨by (with_reducible repeat (first | refine blk_drewN ?_ _ | refine blk_drew ?_ | refine blk_alloc ?_ _)); exact BK106.out⟩, ⟨by exact Ext.s1 GE106.out HB.out⟩⟩
  ·
   replace c5 := Bool.eq_false_iff.mpr c5; subst c5; rw [if_neg Bool.false_ne_true] at H; have H' := Aside0.mk H; clear H; obtain ⟨hcz9_0, hcz9_1, hcz9_2, hcz9_3⟩ := Ext.cells4 BK106.out; obtain ⟨hfz9_0, hfz9_1, hfz9_2, hfz9_3⟩ := Ext.froz4 BK106.out
   go_wp2_with (first | ((with_reducible refine gate_callee (f := 30) rfl ?_); refine Ext.gs (some 5) rfl rfl Try.func30 #[.slice A0_0 l0_0.length c0_0] rfl ?_; (with_reducible refine (page_key.calls _ _ l0_0 false _ ?side1 ?side2 A4.out).mono ?_); (case side1 => first | exact Ext.kC HR0_0.out HB.out | exact Ext.nC HR0_0.out); (case side2 => exact HC0_0.out); rintro e w' ⟨rfl, ⟨nd, rfl⟩⟩; refine ⟨_, rfl, ?_⟩))
   go_meet
   case rel => exact ⟨_, (true), (by first | rfl | (simp; done) | (simp [*]; done)), H', ⟨by first | omega | exact Nat.le_refl _⟩, ⟨by (with_reducible repeat (first | refine blk_drewN ?_ _ | refine blk_drew ?_ | refine blk_alloc ?_ _)); exact BK106.out⟩, ⟨by exact Ext.s1 GE106.out HB.out⟩⟩
 case rest =>
  clear HC2; (try clear c2 p2 c3 c6b0 hcz7_0 hcz7_1 hcz7_2 hcz7_3 hcz8_0 hcz8_1 hcz8_2 hcz8_3 hcz9_0 hcz9_1 hcz9_2 hcz9_3 hfz7_0 hfz7_1 hfz7_2 hfz7_3 hfz8_0 hfz8_1 hfz8_2 hfz8_3 hfz9_0 hfz9_1 hfz9_2 hfz9_3); obtain ⟨kq, x16_1, rfl, HA, HJ1, BK106, HB⟩ := hcut; cases kq with
  | zero => exact absurd HA.out (by simp [page_item.j0])
  | succ kj1 =>
   have H := HA.out; clear HA; simp only [page_item.j0] at H
   by_cases c10 : x16_1 = true
   ·
    subst c10; rw [if_pos rfl] at H; obtain rfl := Option.some.inj H
    go_wp2
    go_ret
    exact ⟨by first | rfl | (simp [errW_none, errW_some] <;> rfl) | (simp [*, errW_none, errW_some] <;> rfl), by exact Ext.s1 GE106.out HB.out⟩
   ·
    replace c10 := Bool.eq_false_iff.mpr c10; subst c10; rw [if_neg Bool.false_ne_true] at H
    by_cases c11 : a0_2 ≤ 64
    ·
     rw [if_pos c11] at H; have c11b0 := decide_eq_true c11; clear c11
     by_cases c12 : (l0_1.length : Int) = a0_2
     case' _ =>
      rw [if_pos c12] at H; obtain ⟨c12b0, c12b1⟩ := Ext.eT c12; clear c12
     rotate_left 1
     case' _ =>
      rw [if_neg c12] at H; obtain ⟨c12b0, c12b1⟩ := Ext.eF c12
     all_goals (obtain rfl := Option.some.inj H; obtain ⟨q0_, q1_, q2_, q3_⟩ := Ext.cells4 BK106.out; obtain ⟨q4_, q5_, q6_, q7_⟩ := Ext.froz4 BK106.out; go_wp2; go_ret; exact ⟨by first | rfl | (simp [errW_none, errW_some] <;> rfl) | (simp [*, errW_none, errW_some] <;> rfl), by exact Ext.s1 GE106.out HB.out⟩)
    ·
     rw [if_neg c11] at H; have c11b0 := decide_eq_false c11; clear c11
     by_cases c15 : (l0_1.length : Int) = 0
     ·
      rw [if_pos c15] at H; obtain ⟨c15b0, c15b1⟩ := Ext.eT c15; clear c15; replace H := Option.bind_eq_some_iff.mp H; obtain ⟨t108, A160, H⟩ := H; (try dsimp only at H); have A16 := Aside0.mk A160; clear A160; obtain rfl := Option.some.inj H; obtain ⟨hcz17_0, hcz17_1, hcz17_2, hcz17_3⟩ := Ext.cells4 BK106.out; obtain ⟨hfz17_0, hfz17_1, hfz17_2, hfz17_3⟩ := Ext.froz4 BK106.out
      go_wp2_with (first | (go_at_call 31; (with_reducible refine (page_id.calls a0_3 t108 _ A16.out).mono ?_); rintro e w' ⟨rfl, ⟨nd, rfl⟩⟩))
      go_ret
      exact ⟨by first | rfl | (simp [errW_none, errW_some] <;> rfl) | (simp [*, errW_none, errW_some] <;> rfl), by exact Ext.s1 GE106.out HB.out⟩
     ·
      rw [if_neg c15] at H; obtain ⟨c15b0, c15b1⟩ := Ext.eF c15
      have c15b2 : ¬ (l0_1 = []) := fun h_ => c15 (by rw [h_]; rfl)
      obtain rfl := Option.some.inj H; obtain ⟨hcz18_0, hcz18_1, hcz18_2, hcz18_3⟩ := Ext.cells4 BK106.out; obtain ⟨hfz18_0, hfz18_1, hfz18_2, hfz18_3⟩ := Ext.froz4 BK106.out
      go_wp2
      go_ret
      exact ⟨by first | rfl | (simp [errW_none, errW_some] <;> rfl) | (simp [*, errW_none, errW_some] <;> rfl), by exact Ext.s1 GE106.out HB.out⟩

-- function 46 (bytealg_Compare): the model's own entry; met in its caller's contract

/-! ### bytes_Compare: function 29 -/
def bytes_Compare.f (l0 : List Int) (l1 : List Int) : Option Int := some (Lib.compareBytes (strOfNums l0).data.toList (strOfNums l1).data.toList)
set_option maxHeartbeats 8000000 in
set_option maxRecDepth 100000 in
theorem bytes_Compare.calls (A0 : Option Addr) (c0 : Nat) (l0 : List Int) (A1 : Option Addr) (c1 : Nat) (l1 : List Int) (r : Int) (w : World) (hr0 : Kd.C (Kd.int .u8) w A0 l0.length l0) (hc0 : l0.length ≤ c0) (hr1 : Kd.C (Kd.int .u8) w A1 l1.length l1) (hc1 : l1.length ≤ c1) (h : bytes_Compare.f l0 l1 = some r) :
    Calls Try.prog 29 #[.slice A0 l0.length c0, .slice A1 l1.length c1] w fun e w' => e = .returned (.int .i64 r) ∧ Drawn0 w w' := by
  have hx := Ext.run_compare (P := Try.prog) (c := c0) (c' := c1) hr0 hr1; obtain rfl := Option.some.inj h; clear h hr0 hr1
  go_enter Try.func29, Try.ntmps29
  go_wp2
  rw [run_callFunc_extern Try.func46 (by kernel_rfl) (by kernel_rfl) (by kernel_rfl) (e := Extern.BytealgCompare.compare) (by kernel_rfl), hx]; simp only [Result.andThen]; rw [Oper.upon_value]
  go_wp2
  go_ret
  exact ⟨rfl, Drawn0.refl _⟩

end Go.Proofs.Ytandeendeoempaa.PC
