-- Written by wip/printx.py, a program of this work over the kit's print, for this claim.
import Derived.Test.YtdakdlgkhnjhoaaPWx0
import Derived.Test.YtdakdlgkhnjhoaaPWx12
namespace Go.Proofs.Ytdakdlgkhnjhoaa.PW
open Go.RowKit Go.Proofs.YtdakdlgkhnjhoaaW.PrintWords Go.Proofs.YtdakdlgkhnjhoaaW.PrintLast Go.Proofs.YtdakdlgkhnjhoaaW.PrintMore
attribute [local go_sem] max2_int min2_int max_two min_two max_three min_three max_four min_four   -- for this text's walks alone
attribute [local go_sem] Ext.pick_u8 Ext.pick_u32 Ext.pick_u64
set_option linter.unusedVariables false
set_option linter.unusedSimpArgs false

@[reducible] def zb27_0 : Array Bool := #[false, false, false, false, false, false, false, false, false, false, false, false]
@[reducible] def zb27_1 : Array Bool := #[true, false, false, false, false, false, false, false, false, false, false, false]
@[reducible] def zb27_2 : Array Bool := #[true, true, false, false, false, false, false, false, false, false, false, false]
@[reducible] def zb27_3 : Array Bool := #[true, true, true, false, false, false, false, false, false, false, false, false]
@[reducible] def zb27_4 : Array Bool := #[true, true, true, true, false, false, false, false, false, false, false, false]
@[reducible] def zb27_5 : Array Bool := #[true, true, true, true, false, true, false, false, false, false, false, false]
@[reducible] def zb27_6 : Array Bool := #[true, true, true, true, false, true, true, false, false, false, false, false]
@[reducible] def zb27_7 : Array Bool := #[true, true, true, true, false, true, true, true, false, false, false, false]
@[reducible] def zb27_8 : Array Bool := #[true, true, true, true, false, true, true, true, true, false, false, false]

/-! ### api_Event_27: function 27 -/
def api_Event_27.l0 : Nat → List (S38) → Int → Option (Bool)
 | 0, _, _ => none
 | k + 1, x0, x5 => if x5 > 0 then (if 0 ≤ x5 then (if x5 < (x0.length : Int) then (if 0 ≤ (wrap64 (x5 - 1)) then (if (wrap64 (x5 - 1)) < (x0.length : Int) then ((batch_Right_1.f ((rd_T38 x0 x5).f0) ((rd_T38 x0 x5).f1.f0) ((rd_T38 x0 x5).f1.f1) ((rd_T38 x0 x5).f1.f2) ((rd_T38 x0 x5).f1.f3) ((rd_T38 x0 x5).f1.f4) ((rd_T38 x0 x5).f1.f5) ((rd_T38 x0 x5).f2) ((rd_T38 x0 x5).f3.f0) ((rd_T38 x0 x5).f3.f1) ((rd_T38 x0 x5).f3.f2) ((rd_T38 x0 x5).f3.f3) ((rd_T38 x0 x5).f3.f4) ((rd_T38 x0 x5).f3.f5) ((rd_T38 x0 (wrap64 (x5 - 1))).f0) ((rd_T38 x0 (wrap64 (x5 - 1))).f1.f0) ((rd_T38 x0 (wrap64 (x5 - 1))).f1.f1) ((rd_T38 x0 (wrap64 (x5 - 1))).f1.f2) ((rd_T38 x0 (wrap64 (x5 - 1))).f1.f3) ((rd_T38 x0 (wrap64 (x5 - 1))).f1.f4) ((rd_T38 x0 (wrap64 (x5 - 1))).f1.f5) ((rd_T38 x0 (wrap64 (x5 - 1))).f2) ((rd_T38 x0 (wrap64 (x5 - 1))).f3.f0) ((rd_T38 x0 (wrap64 (x5 - 1))).f3.f1) ((rd_T38 x0 (wrap64 (x5 - 1))).f3.f2) ((rd_T38 x0 (wrap64 (x5 - 1))).f3.f3) ((rd_T38 x0 (wrap64 (x5 - 1))).f3.f4) ((rd_T38 x0 (wrap64 (x5 - 1))).f3.f5)).bind fun t226 => (if t226 < 0 then (some false) else (api_Event_27.l0 k x0 (wrap64 (x5 - 1))))) else (none)) else (none)) else (none)) else (none)) else (some true)
def api_Event_27.f (k : Nat) (l0 : List (S38))  : Option (Bool) := api_Event_27.l0 k l0 (wrap64 ((l0.length : Int) - 1))
theorem api_Event_27.mono_l : ∀ k, (∀ y0 y1, LeO (api_Event_27.l0 k y0 y1) (api_Event_27.l0 (k + 1) y0 y1))
 | 0 => fun _ _ r h => by simp [api_Event_27.l0] at h
 | k + 1 => by
  have ih0 := api_Event_27.mono_l k
  ·
   intro y0 y1
   unfold api_Event_27.l0
   repeat' first
   | (with_reducible exact ih0 _ _)
   | (with_reducible exact LeO.refl _)
   | (with_reducible exact LeO.none _)
   | (with_reducible refine LeO.ite ?_ ?_)
   | (with_reducible refine LeO.bind ?_ (fun _ => ?_))
   | exact ih0 _ _
   | exact LeO.none _
   | refine LeO.ite ?_ ?_
   | refine LeO.bind ?_ (fun _ => ?_)
theorem api_Event_27.mono : ∀ a0 k, LeO (api_Event_27.f k a0) (api_Event_27.f (k + 1) a0) := by
 intro a0 k
 have ih0 := api_Event_27.mono_l k
 unfold api_Event_27.f
 repeat' first
   | (with_reducible exact ih0 _ _)
   | (with_reducible exact LeO.refl _)
   | (with_reducible exact LeO.none _)
   | (with_reducible refine LeO.ite ?_ ?_)
   | (with_reducible refine LeO.bind ?_ (fun _ => ?_))
   | exact ih0 _ _
   | exact LeO.none _
   | refine LeO.ite ?_ ?_
   | refine LeO.bind ?_ (fun _ => ?_)
def api_Event_27.T4 : Bool × List (List Nat × List Nat) := (true, [([], []), ([], []), ([], []), ([1, 2], [1, 2]), ([3], [3]), ([], []), ([], []), ([6], [6]), ([5, 7], [5, 7]), ([8], [8]), ([0, 4, 9], [0, 4, 9]), ([10], [10])])
def api_Event_27.B4 : List Nat := [0, 0, 0, 6, 14, 0, 0, 64, 224, 480, 1023, 2047]
theorem api_Event_27.tab4 : rtab .any (opsOf Try.f27 4) = api_Event_27.T4 := by kernel_rfl
theorem api_Event_27.bits4 : waitsOk api_Event_27.T4.2 api_Event_27.B4 = true := by kernel_rfl
set_option maxHeartbeats 8000000 in
set_option maxRecDepth 100000 in
theorem api_Event_27.calls (k : Nat) (A0 : Option Addr) (c0 : Nat) (l0 : List (S38))  (r : Bool) (w : World) (hr0 : Kd.C k38 w A0 l0.length l0) (hc0 : l0.length ≤ c0) (h : api_Event_27.f k l0 = some r) :
  Calls Try.prog 27 #[.slice A0 l0.length c0, .func (.func 28) #[] #[]] w fun e w' => e = .returned (.bool r) ∧ Below w.heap.size w w' := by
 have hu38 := Try.underlying38
 have HR0 := Aside0.mk hr0
 have HC0 := Aside0.mk hc0
 clear hr0 hc0
 have HB := Ext.a (Below.refl w.heap.size w)
 have H : (api_Event_27.l0 k l0 (wrap64 ((l0.length : Int) - 1))) = some r := h
 clear h
 have H' := Aside0.mk H
 clear H
 go_enter Try.func27, Try.ntmps27
 go_wp2
 go_loopg [5] k (fun kq v5 w' => ∃ (x5_1 : Int), v5 = .int .i64 x5_1 ∧ Aside0 (api_Event_27.l0 kq l0 x5_1 = some r) ∧ Aside0 (kq ≤ k) ∧ Aside0 (Below w.heap.size w w'))
 case atStart => exact ⟨(wrap64 ((l0.length : Int) - 1)), (by first | rfl | (simp; done) | (simp [*]; done)), H', ⟨Nat.le_refl _⟩, ⟨by repeat (first | (with_reducible first | exact HB.out | apply Ext.ba | apply Ext.bn | apply Ext.bd) | exact HB.out | exact .refl _ _)⟩⟩
 case round =>
  clear H'
  try clear c2
  try clear p2
  obtain ⟨x5_1, rfl, HA, HK1, HB⟩ := hrel
  cases gk with
  | zero => exact absurd HA.out (by simp [api_Event_27.l0])
  | succ k1 =>
   have H := HA.out
   clear HA
   simp only [api_Event_27.l0] at H
   by_cases c3 : x5_1 > 0
   ·
    rw [if_pos c3] at H
    have c3b0 : decide (0 < x5_1) = true := decide_eq_true c3
    clear c3
    by_cases c4 : 0 ≤ x5_1
    ·
     rw [if_pos c4] at H
     have c4b0 : decide (0 ≤ x5_1) = true := decide_eq_true c4
     clear c4
     by_cases c5 : x5_1 < (l0.length : Int)
     ·
      rw [if_pos c5] at H
      have c5b0 : decide (x5_1 < (l0.length : Int)) = true := decide_eq_true c5
      clear c5
      obtain ⟨ji6, hji6⟩ : ∃ j_ : Int, (wrap64 (x5_1 - 1)) = j_ := ⟨_, rfl⟩
      replace H : (if 0 ≤ (ji6) then (if (ji6) < (l0.length : Int) then ((batch_Right_1.f ((rd_T38 l0 x5_1).f0) ((rd_T38 l0 x5_1).f1.f0) ((rd_T38 l0 x5_1).f1.f1) ((rd_T38 l0 x5_1).f1.f2) ((rd_T38 l0 x5_1).f1.f3) ((rd_T38 l0 x5_1).f1.f4) ((rd_T38 l0 x5_1).f1.f5) ((rd_T38 l0 x5_1).f2) ((rd_T38 l0 x5_1).f3.f0) ((rd_T38 l0 x5_1).f3.f1) ((rd_T38 l0 x5_1).f3.f2) ((rd_T38 l0 x5_1).f3.f3) ((rd_T38 l0 x5_1).f3.f4) ((rd_T38 l0 x5_1).f3.f5) ((rd_T38 l0 (ji6)).f0) ((rd_T38 l0 (ji6)).f1.f0) ((rd_T38 l0 (ji6)).f1.f1) ((rd_T38 l0 (ji6)).f1.f2) ((rd_T38 l0 (ji6)).f1.f3) ((rd_T38 l0 (ji6)).f1.f4) ((rd_T38 l0 (ji6)).f1.f5) ((rd_T38 l0 (ji6)).f2) ((rd_T38 l0 (ji6)).f3.f0) ((rd_T38 l0 (ji6)).f3.f1) ((rd_T38 l0 (ji6)).f3.f2) ((rd_T38 l0 (ji6)).f3.f3) ((rd_T38 l0 (ji6)).f3.f4) ((rd_T38 l0 (ji6)).f3.f5)).bind fun t226 => (if t226 < 0 then (some false) else (api_Event_27.l0 k1 l0 ji6))) else (none)) else (none)) = some r := by first | (rw [hji6] at H; exact H) | (simp only [hji6] at H ⊢; exact H)
      have hji6w : (IntKind.i64.wrap (x5_1 - 1)) = ji6 := (i64_w _).trans hji6
      by_cases c7 : 0 ≤ (ji6)
      ·
       rw [if_pos c7] at H
       have c7b0 : decide (0 ≤ (ji6)) = true := decide_eq_true c7
       clear c7
       by_cases c8 : (ji6) < (l0.length : Int)
       ·
        rw [if_pos c8] at H
        have c8b0 : decide ((ji6) < (l0.length : Int)) = true := decide_eq_true c8
        clear c8
        replace H := Option.bind_eq_some_iff.mp H
        obtain ⟨t226, A90, H⟩ := H
        replace H : (if t226 < 0 then (some false) else (api_Event_27.l0 k1 l0 ji6)) = some r := H
        have A9 := Aside0.mk A90
        clear A90
        by_cases c10 : t226 < 0
        ·
         rw [if_pos c10] at H
         have c10b0 : decide (t226 < 0) = true := decide_eq_true c10
         clear c10
         obtain rfl := Option.some.inj H
         try go_wp2
         have n0_ := Ext.a (below_drew1 HB.out)
         clear HB
         have HB := n0_
         clear n0_
         have p224 : 0 ≤ (x5_1 : Int) := of_decide_eq_true (by first | (with_reducible assumption) | assumption)
         have q224 : x5_1 < (l0.length : Int) := of_decide_eq_true (by first | (with_reducible assumption) | assumption)
         obtain ⟨ad224, A224_1, c224_1, A224_2, c224_2, A224_8, c224_8, A224_9, c224_9, e224, hx224_0, hx224_1, hx224_2, hx224_3, hx224_4, hx224_5, hx224_6, hx224_7, hx224_8, hx224_9, hx224_10, hx224_11, hx224_12, hx224_13, hl224_1, hi224_1, hl224_2, hi224_2, hl224_8, hi224_8, hl224_9, hi224_9⟩ := at_T38 HR0.out x5_1 p224 q224
         have hw224_13 := hx224_13
         have hw224_12 := hx224_12
         have hw224_11 := hx224_11
         have hw224_10 := hx224_10
         have hw224_9 := hx224_9
         have hw224_8 := hx224_8
         have hw224_7 := hx224_7
         have hw224_6 := hx224_6
         have hw224_5 := hx224_5
         have hw224_4 := hx224_4
         have hw224_3 := hx224_3
         have hw224_2 := hx224_2
         have hw224_1 := hx224_1
         have hw224_0 := hx224_0
         cases e224
         replace hx224_0 := (HB.out.cell (World.block_lt_of_cell? w _ hx224_0)).trans hx224_0
         replace hx224_1 := (HB.out.cell (World.block_lt_of_cell? w _ hx224_1)).trans hx224_1
         replace hx224_2 := (HB.out.cell (World.block_lt_of_cell? w _ hx224_2)).trans hx224_2
         replace hx224_3 := (HB.out.cell (World.block_lt_of_cell? w _ hx224_3)).trans hx224_3
         replace hx224_4 := (HB.out.cell (World.block_lt_of_cell? w _ hx224_4)).trans hx224_4
         replace hx224_5 := (HB.out.cell (World.block_lt_of_cell? w _ hx224_5)).trans hx224_5
         replace hx224_6 := (HB.out.cell (World.block_lt_of_cell? w _ hx224_6)).trans hx224_6
         replace hx224_7 := (HB.out.cell (World.block_lt_of_cell? w _ hx224_7)).trans hx224_7
         replace hx224_8 := (HB.out.cell (World.block_lt_of_cell? w _ hx224_8)).trans hx224_8
         replace hx224_9 := (HB.out.cell (World.block_lt_of_cell? w _ hx224_9)).trans hx224_9
         replace hx224_10 := (HB.out.cell (World.block_lt_of_cell? w _ hx224_10)).trans hx224_10
         replace hx224_11 := (HB.out.cell (World.block_lt_of_cell? w _ hx224_11)).trans hx224_11
         replace hx224_12 := (HB.out.cell (World.block_lt_of_cell? w _ hx224_12)).trans hx224_12
         replace hx224_13 := (HB.out.cell (World.block_lt_of_cell? w _ hx224_13)).trans hx224_13
         have HR224_1 := Aside0.mk hi224_1
         have HC224_1 := Aside0.mk hl224_1
         clear hi224_1 hl224_1
         have HR224_2 := Aside0.mk hi224_2
         have HC224_2 := Aside0.mk hl224_2
         clear hi224_2 hl224_2
         have HR224_8 := Aside0.mk hi224_8
         have HC224_8 := Aside0.mk hl224_8
         clear hi224_8 hl224_8
         have HR224_9 := Aside0.mk hi224_9
         have HC224_9 := Aside0.mk hl224_9
         clear hi224_9 hl224_9
         replace p224 := eq_true p224
         replace q224 := eq_true q224
         have p225 : 0 ≤ ((ji6) : Int) := of_decide_eq_true (by first | (with_reducible assumption) | assumption)
         have q225 : (ji6) < (l0.length : Int) := of_decide_eq_true (by first | (with_reducible assumption) | assumption)
         obtain ⟨ad225, A225_1, c225_1, A225_2, c225_2, A225_8, c225_8, A225_9, c225_9, e225, hx225_0, hx225_1, hx225_2, hx225_3, hx225_4, hx225_5, hx225_6, hx225_7, hx225_8, hx225_9, hx225_10, hx225_11, hx225_12, hx225_13, hl225_1, hi225_1, hl225_2, hi225_2, hl225_8, hi225_8, hl225_9, hi225_9⟩ := at_T38 HR0.out (ji6) p225 q225
         have hw225_13 := hx225_13
         have hw225_12 := hx225_12
         have hw225_11 := hx225_11
         have hw225_10 := hx225_10
         have hw225_9 := hx225_9
         have hw225_8 := hx225_8
         have hw225_7 := hx225_7
         have hw225_6 := hx225_6
         have hw225_5 := hx225_5
         have hw225_4 := hx225_4
         have hw225_3 := hx225_3
         have hw225_2 := hx225_2
         have hw225_1 := hx225_1
         have hw225_0 := hx225_0
         obtain rfl : ad224 = ad225 := (by injection e225)
         replace hx225_0 := (HB.out.cell (World.block_lt_of_cell? w _ hx225_0)).trans hx225_0
         replace hx225_1 := (HB.out.cell (World.block_lt_of_cell? w _ hx225_1)).trans hx225_1
         replace hx225_2 := (HB.out.cell (World.block_lt_of_cell? w _ hx225_2)).trans hx225_2
         replace hx225_3 := (HB.out.cell (World.block_lt_of_cell? w _ hx225_3)).trans hx225_3
         replace hx225_4 := (HB.out.cell (World.block_lt_of_cell? w _ hx225_4)).trans hx225_4
         replace hx225_5 := (HB.out.cell (World.block_lt_of_cell? w _ hx225_5)).trans hx225_5
         replace hx225_6 := (HB.out.cell (World.block_lt_of_cell? w _ hx225_6)).trans hx225_6
         replace hx225_7 := (HB.out.cell (World.block_lt_of_cell? w _ hx225_7)).trans hx225_7
         replace hx225_8 := (HB.out.cell (World.block_lt_of_cell? w _ hx225_8)).trans hx225_8
         replace hx225_9 := (HB.out.cell (World.block_lt_of_cell? w _ hx225_9)).trans hx225_9
         replace hx225_10 := (HB.out.cell (World.block_lt_of_cell? w _ hx225_10)).trans hx225_10
         replace hx225_11 := (HB.out.cell (World.block_lt_of_cell? w _ hx225_11)).trans hx225_11
         replace hx225_12 := (HB.out.cell (World.block_lt_of_cell? w _ hx225_12)).trans hx225_12
         replace hx225_13 := (HB.out.cell (World.block_lt_of_cell? w _ hx225_13)).trans hx225_13
         have HR225_1 := Aside0.mk hi225_1
         have HC225_1 := Aside0.mk hl225_1
         clear hi225_1 hl225_1
         have HR225_2 := Aside0.mk hi225_2
         have HC225_2 := Aside0.mk hl225_2
         clear hi225_2 hl225_2
         have HR225_8 := Aside0.mk hi225_8
         have HC225_8 := Aside0.mk hl225_8
         clear hi225_8 hl225_8
         have HR225_9 := Aside0.mk hi225_9
         have HC225_9 := Aside0.mk hl225_9
         clear hi225_9 hl225_9
         replace p225 := eq_true p225
         replace q225 := eq_true q225
         refine start_ (n := 12) (S := fun w' => w'.cell? (ad224.add ((x5_1).toNat * 14)) = some (.int .i64 ((rd_T38 l0 x5_1).f0)) ∧ w'.cell? ⟨(ad224.add ((x5_1).toNat * 14)).block, (ad224.add ((x5_1).toNat * 14)).off + 1, none⟩ = some (.slice A224_1 ((rd_T38 l0 x5_1).f1.f0).length c224_1) ∧ w'.cell? ⟨(ad224.add ((x5_1).toNat * 14)).block, (ad224.add ((x5_1).toNat * 14)).off + 2, none⟩ = some (.slice A224_2 ((rd_T38 l0 x5_1).f1.f1).length c224_2) ∧ w'.cell? ⟨(ad224.add ((x5_1).toNat * 14)).block, (ad224.add ((x5_1).toNat * 14)).off + 3, none⟩ = some (.int .i64 ((rd_T38 l0 x5_1).f1.f2)) ∧ w'.cell? ⟨(ad224.add ((x5_1).toNat * 14)).block, (ad224.add ((x5_1).toNat * 14)).off + 4, none⟩ = some (.int .i64 ((rd_T38 l0 x5_1).f1.f3)) ∧ w'.cell? ⟨(ad224.add ((x5_1).toNat * 14)).block, (ad224.add ((x5_1).toNat * 14)).off + 5, none⟩ = some (.int .i64 ((rd_T38 l0 x5_1).f1.f4)) ∧ w'.cell? ⟨(ad224.add ((x5_1).toNat * 14)).block, (ad224.add ((x5_1).toNat * 14)).off + 6, none⟩ = some (.int .i64 ((rd_T38 l0 x5_1).f1.f5)) ∧ w'.cell? ⟨(ad224.add ((x5_1).toNat * 14)).block, (ad224.add ((x5_1).toNat * 14)).off + 7, none⟩ = some (.bool ((rd_T38 l0 x5_1).f2)) ∧ w'.cell? ⟨(ad224.add ((x5_1).toNat * 14)).block, (ad224.add ((x5_1).toNat * 14)).off + 8, none⟩ = some (.slice A224_8 ((rd_T38 l0 x5_1).f3.f0).length c224_8) ∧ w'.cell? ⟨(ad224.add ((x5_1).toNat * 14)).block, (ad224.add ((x5_1).toNat * 14)).off + 9, none⟩ = some (.slice A224_9 ((rd_T38 l0 x5_1).f3.f1).length c224_9) ∧ w'.cell? ⟨(ad224.add ((x5_1).toNat * 14)).block, (ad224.add ((x5_1).toNat * 14)).off + 10, none⟩ = some (.int .i64 ((rd_T38 l0 x5_1).f3.f2)) ∧ w'.cell? ⟨(ad224.add ((x5_1).toNat * 14)).block, (ad224.add ((x5_1).toNat * 14)).off + 11, none⟩ = some (.int .i64 ((rd_T38 l0 x5_1).f3.f3)) ∧ w'.cell? ⟨(ad224.add ((x5_1).toNat * 14)).block, (ad224.add ((x5_1).toNat * 14)).off + 12, none⟩ = some (.int .i64 ((rd_T38 l0 x5_1).f3.f4)) ∧ w'.cell? ⟨(ad224.add ((x5_1).toNat * 14)).block, (ad224.add ((x5_1).toNat * 14)).off + 13, none⟩ = some (.int .i64 ((rd_T38 l0 x5_1).f3.f5)) ∧ w'.cell? (ad224.add (((ji6)).toNat * 14)) = some (.int .i64 ((rd_T38 l0 (ji6)).f0)) ∧ w'.cell? ⟨(ad224.add (((ji6)).toNat * 14)).block, (ad224.add (((ji6)).toNat * 14)).off + 1, none⟩ = some (.slice A225_1 ((rd_T38 l0 (ji6)).f1.f0).length c225_1) ∧ w'.cell? ⟨(ad224.add (((ji6)).toNat * 14)).block, (ad224.add (((ji6)).toNat * 14)).off + 2, none⟩ = some (.slice A225_2 ((rd_T38 l0 (ji6)).f1.f1).length c225_2) ∧ w'.cell? ⟨(ad224.add (((ji6)).toNat * 14)).block, (ad224.add (((ji6)).toNat * 14)).off + 3, none⟩ = some (.int .i64 ((rd_T38 l0 (ji6)).f1.f2)) ∧ w'.cell? ⟨(ad224.add (((ji6)).toNat * 14)).block, (ad224.add (((ji6)).toNat * 14)).off + 4, none⟩ = some (.int .i64 ((rd_T38 l0 (ji6)).f1.f3)) ∧ w'.cell? ⟨(ad224.add (((ji6)).toNat * 14)).block, (ad224.add (((ji6)).toNat * 14)).off + 5, none⟩ = some (.int .i64 ((rd_T38 l0 (ji6)).f1.f4)) ∧ w'.cell? ⟨(ad224.add (((ji6)).toNat * 14)).block, (ad224.add (((ji6)).toNat * 14)).off + 6, none⟩ = some (.int .i64 ((rd_T38 l0 (ji6)).f1.f5)) ∧ w'.cell? ⟨(ad224.add (((ji6)).toNat * 14)).block, (ad224.add (((ji6)).toNat * 14)).off + 7, none⟩ = some (.bool ((rd_T38 l0 (ji6)).f2)) ∧ w'.cell? ⟨(ad224.add (((ji6)).toNat * 14)).block, (ad224.add (((ji6)).toNat * 14)).off + 8, none⟩ = some (.slice A225_8 ((rd_T38 l0 (ji6)).f3.f0).length c225_8) ∧ w'.cell? ⟨(ad224.add (((ji6)).toNat * 14)).block, (ad224.add (((ji6)).toNat * 14)).off + 9, none⟩ = some (.slice A225_9 ((rd_T38 l0 (ji6)).f3.f1).length c225_9) ∧ w'.cell? ⟨(ad224.add (((ji6)).toNat * 14)).block, (ad224.add (((ji6)).toNat * 14)).off + 10, none⟩ = some (.int .i64 ((rd_T38 l0 (ji6)).f3.f2)) ∧ w'.cell? ⟨(ad224.add (((ji6)).toNat * 14)).block, (ad224.add (((ji6)).toNat * 14)).off + 11, none⟩ = some (.int .i64 ((rd_T38 l0 (ji6)).f3.f3)) ∧ w'.cell? ⟨(ad224.add (((ji6)).toNat * 14)).block, (ad224.add (((ji6)).toNat * 14)).off + 12, none⟩ = some (.int .i64 ((rd_T38 l0 (ji6)).f3.f4)) ∧ w'.cell? ⟨(ad224.add (((ji6)).toNat * 14)).block, (ad224.add (((ji6)).toNat * 14)).off + 13, none⟩ = some (.int .i64 ((rd_T38 l0 (ji6)).f3.f5))) (ds := []) zb27_0 (by kernel_rfl) rfl rfl ⟨((HB.out.cell (World.block_lt_of_cell? w _ hw224_0)).trans hw224_0), ((HB.out.cell (World.block_lt_of_cell? w _ hw224_1)).trans hw224_1), ((HB.out.cell (World.block_lt_of_cell? w _ hw224_2)).trans hw224_2), ((HB.out.cell (World.block_lt_of_cell? w _ hw224_3)).trans hw224_3), ((HB.out.cell (World.block_lt_of_cell? w _ hw224_4)).trans hw224_4), ((HB.out.cell (World.block_lt_of_cell? w _ hw224_5)).trans hw224_5), ((HB.out.cell (World.block_lt_of_cell? w _ hw224_6)).trans hw224_6), ((HB.out.cell (World.block_lt_of_cell? w _ hw224_7)).trans hw224_7), ((HB.out.cell (World.block_lt_of_cell? w _ hw224_8)).trans hw224_8), ((HB.out.cell (World.block_lt_of_cell? w _ hw224_9)).trans hw224_9), ((HB.out.cell (World.block_lt_of_cell? w _ hw224_10)).trans hw224_10), ((HB.out.cell (World.block_lt_of_cell? w _ hw224_11)).trans hw224_11), ((HB.out.cell (World.block_lt_of_cell? w _ hw224_12)).trans hw224_12), ((HB.out.cell (World.block_lt_of_cell? w _ hw224_13)).trans hw224_13), ((HB.out.cell (World.block_lt_of_cell? w _ hw225_0)).trans hw225_0), ((HB.out.cell (World.block_lt_of_cell? w _ hw225_1)).trans hw225_1), ((HB.out.cell (World.block_lt_of_cell? w _ hw225_2)).trans hw225_2), ((HB.out.cell (World.block_lt_of_cell? w _ hw225_3)).trans hw225_3), ((HB.out.cell (World.block_lt_of_cell? w _ hw225_4)).trans hw225_4), ((HB.out.cell (World.block_lt_of_cell? w _ hw225_5)).trans hw225_5), ((HB.out.cell (World.block_lt_of_cell? w _ hw225_6)).trans hw225_6), ((HB.out.cell (World.block_lt_of_cell? w _ hw225_7)).trans hw225_7), ((HB.out.cell (World.block_lt_of_cell? w _ hw225_8)).trans hw225_8), ((HB.out.cell (World.block_lt_of_cell? w _ hw225_9)).trans hw225_9), ((HB.out.cell (World.block_lt_of_cell? w _ hw225_10)).trans hw225_10), ((HB.out.cell (World.block_lt_of_cell? w _ hw225_11)).trans hw225_11), ((HB.out.cell (World.block_lt_of_cell? w _ hw225_12)).trans hw225_12), ((HB.out.cell (World.block_lt_of_cell? w _ hw225_13)).trans hw225_13)⟩ (fun hHeld => ?_); refine with_tabW api_Event_27.tab4 api_Event_27.bits4 (fun HT_ HW_ => ?_)
         generalize wr.drew = w11 at HB HR224_1 HR224_2 HR224_8 HR224_9 HR225_1 HR225_2 HR225_8 HR225_9 hx224_0 hx224_1 hx224_10 hx224_11 hx224_12 hx224_13 hx224_2 hx224_3 hx224_4 hx224_5 hx224_6 hx224_7 hx224_8 hx224_9 hx225_0 hx225_1 hx225_10 hx225_11 hx225_12 hx225_13 hx225_2 hx225_3 hx225_4 hx225_5 hx225_6 hx225_7 hx225_8 hx225_9 hHeld ⊢
         refine pure_ (i := 0) (N := some 13) (v := ?_) (a' := ?_) zb27_1 rfl rfl (any_of HT_.out (by kernel_rfl)) (fun _ _ _ h => h) (Or.inl ⟨by rfl, ?_⟩) ?_ ?_
         rotate_left
         · intro w'; go_simp; with_reducible rfl
         rotate_left
         · simp only [Act.put, Ext.sb, Ext.sz, Ext.ss, i64_w, i32_w]; rfl
         refine pure_ (i := 1) (N := some 14) (v := ?_) (a' := ?_) zb27_2 rfl rfl (any_of HT_.out (by kernel_rfl)) (fun _ _ _ h => h) (Or.inl ⟨by rfl, ?_⟩) ?_ ?_
         rotate_left
         · intro w'; go_simp; with_reducible rfl
         rotate_left
         · simp only [Act.put, Ext.sb, Ext.sz, Ext.ss, i64_w, i32_w]; rfl
         refine pure_ (i := 2) (N := some 15) (v := ?_) (a' := ?_) zb27_3 rfl rfl (any_of HT_.out (by kernel_rfl)) (fun _ _ _ h => h) (Or.inl ⟨by rfl, ?_⟩) ?_ ?_
         rotate_left
         · intro w'; go_simp; with_reducible rfl
         rotate_left
         · simp only [Act.put, Ext.sb, Ext.sz, Ext.ss, i64_w, i32_w]; rfl
         refine pure_ (i := 3) (N := some 16) (v := ?_) (a' := ?_) zb27_4 rfl rfl (any_of HT_.out (by kernel_rfl)) (fun _ _ _ h => h) (Or.inl ⟨by rfl, ?_⟩) ?_ ?_
         rotate_left
         · intro w'; go_simp; with_reducible rfl
         rotate_left
         · simp only [Act.put, Ext.sb, Ext.sz, Ext.ss, i64_w, i32_w]; rfl
         refine pure_ (i := 5) (N := some 18) (v := ?_) (a' := ?_) zb27_5 rfl rfl (any_of HT_.out (by kernel_rfl)) (fun _ _ _ h => h) (Or.inl ⟨by rfl, ?_⟩) ?_ ?_
         rotate_left
         · intro w'; go_simp; with_reducible rfl
         rotate_left
         · simp only [Act.put, Ext.sb, Ext.sz, Ext.ss, i64_w, i32_w]; rfl
         refine pure_ (i := 6) (N := some 19) (v := ?_) (a' := ?_) zb27_6 rfl rfl (any_of HT_.out (by kernel_rfl)) (fun _ _ _ h => h) (Or.inl ⟨by rfl, ?_⟩) ?_ ?_
         rotate_left
         · intro w'; go_simp; with_reducible rfl
         rotate_left
         · simp only [Act.put, Ext.sb, Ext.sz, Ext.ss, i64_w, i32_w]; rfl
         refine pure_ (i := 7) (N := some 20) (v := ?_) (a' := ?_) zb27_7 rfl rfl (any_of HT_.out (by kernel_rfl)) (fun _ _ _ h => h) (Or.inl ⟨by rfl, ?_⟩) ?_ ?_
         rotate_left
         · intro w'; go_simp; with_reducible rfl
         rotate_left
         · simp only [Act.put, Ext.sb, Ext.sz, Ext.ss, i64_w, i32_w]; rfl
         refine pure_ (i := 8) (N := some 21) (v := ?_) (a' := ?_) zb27_8 rfl rfl (any_of HT_.out (by kernel_rfl)) (fun _ _ _ h => h) (Or.inl ⟨by rfl, ?_⟩) ?_ ?_
         rotate_left
         · intro w'; go_simp; with_reducible rfl
         rotate_left
         · simp only [Act.put, Ext.sb, Ext.sz, Ext.ss, i64_w, i32_w]; rfl
         refine take_ (i := 4) (N := some 17) (v := ?_) (a' := ?_) #[true, true, true, true, true, true, true, true, true, false, false, false] rfl rfl (take_ofW HT_.out HW_.out (by kernel_rfl)) (fun _ _ _ h => h) (Or.inl ⟨by rfl, ?_⟩) hHeld ?_ ?_
         rotate_left
         · rintro w' ⟨s0, s1, s2, s3, s4, s5, s6, s7, s8, s9, s10, s11, s12, s13, s14, s15, s16, s17, s18, s19, s20, s21, s22, s23, s24, s25, s26, s27⟩; go_simp; with_reducible rfl
         rotate_left
         · simp only [Act.put, Ext.sb, Ext.sz, Ext.ss, i64_w, i32_w]; rfl
         refine take_ (i := 9) (N := some 22) (v := ?_) (a' := ?_) #[true, true, true, true, true, true, true, true, true, true, false, false] rfl rfl (take_ofW HT_.out HW_.out (by kernel_rfl)) (fun _ _ _ h => h) (Or.inl ⟨by rfl, ?_⟩) hHeld ?_ ?_
         rotate_left
         · rintro w' ⟨s0, s1, s2, s3, s4, s5, s6, s7, s8, s9, s10, s11, s12, s13, s14, s15, s16, s17, s18, s19, s20, s21, s22, s23, s24, s25, s26, s27⟩; go_simp; with_reducible rfl
         rotate_left
         · simp only [Act.put, Ext.sb, Ext.sz, Ext.ss, i64_w, i32_w]; rfl
         refine one_ (i := 10) (N := some 23) #[true, true, true, true, true, true, true, true, true, true, true, false] rfl rfl (one_of HT_.out (by kernel_rfl)) (by decide) (fun K hK => ?_)
         refine Ext.goesV_ Try.func28 (by kernel_rfl) rfl #[.agg #[.int .i64 ((rd_T38 l0 x5_1).f0), .slice A224_1 ((rd_T38 l0 x5_1).f1.f0).length c224_1, .slice A224_2 ((rd_T38 l0 x5_1).f1.f1).length c224_2, .int .i64 ((rd_T38 l0 x5_1).f1.f2), .int .i64 ((rd_T38 l0 x5_1).f1.f3), .int .i64 ((rd_T38 l0 x5_1).f1.f4), .int .i64 ((rd_T38 l0 x5_1).f1.f5), .bool ((rd_T38 l0 x5_1).f2), .slice A224_8 ((rd_T38 l0 x5_1).f3.f0).length c224_8, .slice A224_9 ((rd_T38 l0 x5_1).f3.f1).length c224_9, .int .i64 ((rd_T38 l0 x5_1).f3.f2), .int .i64 ((rd_T38 l0 x5_1).f3.f3), .int .i64 ((rd_T38 l0 x5_1).f3.f4), .int .i64 ((rd_T38 l0 x5_1).f3.f5)], .agg #[.int .i64 ((rd_T38 l0 (ji6)).f0), .slice A225_1 ((rd_T38 l0 (ji6)).f1.f0).length c225_1, .slice A225_2 ((rd_T38 l0 (ji6)).f1.f1).length c225_2, .int .i64 ((rd_T38 l0 (ji6)).f1.f2), .int .i64 ((rd_T38 l0 (ji6)).f1.f3), .int .i64 ((rd_T38 l0 (ji6)).f1.f4), .int .i64 ((rd_T38 l0 (ji6)).f1.f5), .bool ((rd_T38 l0 (ji6)).f2), .slice A225_8 ((rd_T38 l0 (ji6)).f3.f0).length c225_8, .slice A225_9 ((rd_T38 l0 (ji6)).f3.f1).length c225_9, .int .i64 ((rd_T38 l0 (ji6)).f3.f2), .int .i64 ((rd_T38 l0 (ji6)).f3.f3), .int .i64 ((rd_T38 l0 (ji6)).f3.f4), .int .i64 ((rd_T38 l0 (ji6)).f3.f5)]] (by rfl) rfl rfl (by (try simp only [List.map_toArray, List.map_cons, List.map_nil]); first | done | (simp only [hji6]; rfl) | rfl | (simp only [List.length_drop, List.length_take]; rfl)) ?_
         with_reducible refine (batch_Right_1.calls ((rd_T38 l0 x5_1).f0) _ _ ((rd_T38 l0 x5_1).f1.f0) _ _ ((rd_T38 l0 x5_1).f1.f1) ((rd_T38 l0 x5_1).f1.f2) ((rd_T38 l0 x5_1).f1.f3) ((rd_T38 l0 x5_1).f1.f4) ((rd_T38 l0 x5_1).f1.f5) ((rd_T38 l0 x5_1).f2) _ _ ((rd_T38 l0 x5_1).f3.f0) _ _ ((rd_T38 l0 x5_1).f3.f1) ((rd_T38 l0 x5_1).f3.f2) ((rd_T38 l0 x5_1).f3.f3) ((rd_T38 l0 x5_1).f3.f4) ((rd_T38 l0 x5_1).f3.f5) ((rd_T38 l0 (ji6)).f0) _ _ ((rd_T38 l0 (ji6)).f1.f0) _ _ ((rd_T38 l0 (ji6)).f1.f1) ((rd_T38 l0 (ji6)).f1.f2) ((rd_T38 l0 (ji6)).f1.f3) ((rd_T38 l0 (ji6)).f1.f4) ((rd_T38 l0 (ji6)).f1.f5) ((rd_T38 l0 (ji6)).f2) _ _ ((rd_T38 l0 (ji6)).f3.f0) _ _ ((rd_T38 l0 (ji6)).f3.f1) ((rd_T38 l0 (ji6)).f3.f2) ((rd_T38 l0 (ji6)).f3.f3) ((rd_T38 l0 (ji6)).f3.f4) ((rd_T38 l0 (ji6)).f3.f5) t226 _ ?side1 ?side2 ?side3 ?side4 ?side5 ?side6 ?side7 ?side8 ?side9 ?side10 ?side11 ?side12 ?side13 ?side14 ?side15 ?side16 A9.out).mono ?_
         (case side1 => repeat (first | exact (Kd.C_below HR224_1.out HB.out) | exact HR224_1.out | (with_reducible refine Kd.C_alloc ?_ _) | (with_reducible refine Kd.C_drewN ?_ _) | (with_reducible refine Kd.C_drew ?_)))
         (case side2 => exact HC224_1.out)
         (case side3 => repeat (first | exact (Kd.C_below HR224_2.out HB.out) | exact HR224_2.out | (with_reducible refine Kd.C_alloc ?_ _) | (with_reducible refine Kd.C_drewN ?_ _) | (with_reducible refine Kd.C_drew ?_)))
         (case side4 => exact HC224_2.out)
         (case side5 => repeat (first | exact (Kd.C_below HR224_8.out HB.out) | exact HR224_8.out | (with_reducible refine Kd.C_alloc ?_ _) | (with_reducible refine Kd.C_drewN ?_ _) | (with_reducible refine Kd.C_drew ?_)))
         (case side6 => exact HC224_8.out)
         (case side7 => repeat (first | exact (Kd.C_below HR224_9.out HB.out) | exact HR224_9.out | (with_reducible refine Kd.C_alloc ?_ _) | (with_reducible refine Kd.C_drewN ?_ _) | (with_reducible refine Kd.C_drew ?_)))
         (case side8 => exact HC224_9.out)
         (case side9 => repeat (first | exact (Kd.C_below HR225_1.out HB.out) | exact HR225_1.out | (with_reducible refine Kd.C_alloc ?_ _) | (with_reducible refine Kd.C_drewN ?_ _) | (with_reducible refine Kd.C_drew ?_)))
         (case side10 => exact HC225_1.out)
         (case side11 => repeat (first | exact (Kd.C_below HR225_2.out HB.out) | exact HR225_2.out | (with_reducible refine Kd.C_alloc ?_ _) | (with_reducible refine Kd.C_drewN ?_ _) | (with_reducible refine Kd.C_drew ?_)))
         (case side12 => exact HC225_2.out)
         (case side13 => repeat (first | exact (Kd.C_below HR225_8.out HB.out) | exact HR225_8.out | (with_reducible refine Kd.C_alloc ?_ _) | (with_reducible refine Kd.C_drewN ?_ _) | (with_reducible refine Kd.C_drew ?_)))
         (case side14 => exact HC225_8.out)
         (case side15 => repeat (first | exact (Kd.C_below HR225_9.out HB.out) | exact HR225_9.out | (with_reducible refine Kd.C_alloc ?_ _) | (with_reducible refine Kd.C_drewN ?_ _) | (with_reducible refine Kd.C_drew ?_)))
         (case side16 => exact HC225_9.out)
         rintro e w12 ⟨rfl, hb⟩
         refine ⟨_, rfl, ?_⟩
         have n0_ := Ext.a (below_step (Ext.nB HB.out) hb)
         clear HB
         have HB := n0_
         clear n0_
         (try clear hb)
         (try clear hb2)
         (try clear hk)
         (try clear hi)
         refine hK.out _ _ ⟨((HB.out.cell (World.block_lt_of_cell? w _ hw224_0)).trans hw224_0), ((HB.out.cell (World.block_lt_of_cell? w _ hw224_1)).trans hw224_1), ((HB.out.cell (World.block_lt_of_cell? w _ hw224_2)).trans hw224_2), ((HB.out.cell (World.block_lt_of_cell? w _ hw224_3)).trans hw224_3), ((HB.out.cell (World.block_lt_of_cell? w _ hw224_4)).trans hw224_4), ((HB.out.cell (World.block_lt_of_cell? w _ hw224_5)).trans hw224_5), ((HB.out.cell (World.block_lt_of_cell? w _ hw224_6)).trans hw224_6), ((HB.out.cell (World.block_lt_of_cell? w _ hw224_7)).trans hw224_7), ((HB.out.cell (World.block_lt_of_cell? w _ hw224_8)).trans hw224_8), ((HB.out.cell (World.block_lt_of_cell? w _ hw224_9)).trans hw224_9), ((HB.out.cell (World.block_lt_of_cell? w _ hw224_10)).trans hw224_10), ((HB.out.cell (World.block_lt_of_cell? w _ hw224_11)).trans hw224_11), ((HB.out.cell (World.block_lt_of_cell? w _ hw224_12)).trans hw224_12), ((HB.out.cell (World.block_lt_of_cell? w _ hw224_13)).trans hw224_13), ((HB.out.cell (World.block_lt_of_cell? w _ hw225_0)).trans hw225_0), ((HB.out.cell (World.block_lt_of_cell? w _ hw225_1)).trans hw225_1), ((HB.out.cell (World.block_lt_of_cell? w _ hw225_2)).trans hw225_2), ((HB.out.cell (World.block_lt_of_cell? w _ hw225_3)).trans hw225_3), ((HB.out.cell (World.block_lt_of_cell? w _ hw225_4)).trans hw225_4), ((HB.out.cell (World.block_lt_of_cell? w _ hw225_5)).trans hw225_5), ((HB.out.cell (World.block_lt_of_cell? w _ hw225_6)).trans hw225_6), ((HB.out.cell (World.block_lt_of_cell? w _ hw225_7)).trans hw225_7), ((HB.out.cell (World.block_lt_of_cell? w _ hw225_8)).trans hw225_8), ((HB.out.cell (World.block_lt_of_cell? w _ hw225_9)).trans hw225_9), ((HB.out.cell (World.block_lt_of_cell? w _ hw225_10)).trans hw225_10), ((HB.out.cell (World.block_lt_of_cell? w _ hw225_11)).trans hw225_11), ((HB.out.cell (World.block_lt_of_cell? w _ hw225_12)).trans hw225_12), ((HB.out.cell (World.block_lt_of_cell? w _ hw225_13)).trans hw225_13)⟩ (fun hHeld => ?_)
         clear hK K
         refine norm_ (a' := ?_) ?_ ?_
         rotate_left
         · show Act.put _ (some 23) _ = _; simp only [Act.put, Ext.sb, Ext.sz, Ext.ss, i64_w, i32_w]; rfl
         refine pure_ (i := 11) (N := some 24) (v := ?_) (a' := ?_) #[true, true, true, true, true, true, true, true, true, true, true, true] rfl rfl (any_of HT_.out (by kernel_rfl)) (fun _ _ _ h => h) (Or.inl ⟨by rfl, ?_⟩) ?_ ?_
         rotate_left
         · intro w'; go_simp; with_reducible rfl
         rotate_left
         · simp only [Act.put, Ext.sb, Ext.sz, Ext.ss, i64_w, i32_w]; rfl
         refine done_ (done_of HT_.out (by kernel_rfl)) ?_
         try go_wp2
         go_ret
         exact ⟨by first | rfl | (simp [errW_none, errW_some] <;> rfl) | (simp only [← hji6]; first | rfl | (simp [errW_none, errW_some] <;> rfl)) | (simp [*, errW_none, errW_some] <;> rfl), by repeat (first | (with_reducible first | exact HB.out | apply Ext.ba | apply Ext.bn | apply Ext.bd) | exact HB.out | exact .refl _ _)⟩
        ·
         rw [if_neg c10] at H
         have c10b0 : decide (t226 < 0) = false := decide_eq_false c10
         clear c10
         have H' := Aside0.mk H
         clear H
         try go_wp2
         have n0_ := Ext.a (below_drew1 HB.out)
         clear HB
         have HB := n0_
         clear n0_
         have p224 : 0 ≤ (x5_1 : Int) := of_decide_eq_true (by first | (with_reducible assumption) | assumption)
         have q224 : x5_1 < (l0.length : Int) := of_decide_eq_true (by first | (with_reducible assumption) | assumption)
         obtain ⟨ad224, A224_1, c224_1, A224_2, c224_2, A224_8, c224_8, A224_9, c224_9, e224, hx224_0, hx224_1, hx224_2, hx224_3, hx224_4, hx224_5, hx224_6, hx224_7, hx224_8, hx224_9, hx224_10, hx224_11, hx224_12, hx224_13, hl224_1, hi224_1, hl224_2, hi224_2, hl224_8, hi224_8, hl224_9, hi224_9⟩ := at_T38 HR0.out x5_1 p224 q224
         have hw224_13 := hx224_13
         have hw224_12 := hx224_12
         have hw224_11 := hx224_11
         have hw224_10 := hx224_10
         have hw224_9 := hx224_9
         have hw224_8 := hx224_8
         have hw224_7 := hx224_7
         have hw224_6 := hx224_6
         have hw224_5 := hx224_5
         have hw224_4 := hx224_4
         have hw224_3 := hx224_3
         have hw224_2 := hx224_2
         have hw224_1 := hx224_1
         have hw224_0 := hx224_0
         cases e224
         replace hx224_0 := (HB.out.cell (World.block_lt_of_cell? w _ hx224_0)).trans hx224_0
         replace hx224_1 := (HB.out.cell (World.block_lt_of_cell? w _ hx224_1)).trans hx224_1
         replace hx224_2 := (HB.out.cell (World.block_lt_of_cell? w _ hx224_2)).trans hx224_2
         replace hx224_3 := (HB.out.cell (World.block_lt_of_cell? w _ hx224_3)).trans hx224_3
         replace hx224_4 := (HB.out.cell (World.block_lt_of_cell? w _ hx224_4)).trans hx224_4
         replace hx224_5 := (HB.out.cell (World.block_lt_of_cell? w _ hx224_5)).trans hx224_5
         replace hx224_6 := (HB.out.cell (World.block_lt_of_cell? w _ hx224_6)).trans hx224_6
         replace hx224_7 := (HB.out.cell (World.block_lt_of_cell? w _ hx224_7)).trans hx224_7
         replace hx224_8 := (HB.out.cell (World.block_lt_of_cell? w _ hx224_8)).trans hx224_8
         replace hx224_9 := (HB.out.cell (World.block_lt_of_cell? w _ hx224_9)).trans hx224_9
         replace hx224_10 := (HB.out.cell (World.block_lt_of_cell? w _ hx224_10)).trans hx224_10
         replace hx224_11 := (HB.out.cell (World.block_lt_of_cell? w _ hx224_11)).trans hx224_11
         replace hx224_12 := (HB.out.cell (World.block_lt_of_cell? w _ hx224_12)).trans hx224_12
         replace hx224_13 := (HB.out.cell (World.block_lt_of_cell? w _ hx224_13)).trans hx224_13
         have HR224_1 := Aside0.mk hi224_1
         have HC224_1 := Aside0.mk hl224_1
         clear hi224_1 hl224_1
         have HR224_2 := Aside0.mk hi224_2
         have HC224_2 := Aside0.mk hl224_2
         clear hi224_2 hl224_2
         have HR224_8 := Aside0.mk hi224_8
         have HC224_8 := Aside0.mk hl224_8
         clear hi224_8 hl224_8
         have HR224_9 := Aside0.mk hi224_9
         have HC224_9 := Aside0.mk hl224_9
         clear hi224_9 hl224_9
         replace p224 := eq_true p224
         replace q224 := eq_true q224
         have p225 : 0 ≤ ((ji6) : Int) := of_decide_eq_true (by first | (with_reducible assumption) | assumption)
         have q225 : (ji6) < (l0.length : Int) := of_decide_eq_true (by first | (with_reducible assumption) | assumption)
         obtain ⟨ad225, A225_1, c225_1, A225_2, c225_2, A225_8, c225_8, A225_9, c225_9, e225, hx225_0, hx225_1, hx225_2, hx225_3, hx225_4, hx225_5, hx225_6, hx225_7, hx225_8, hx225_9, hx225_10, hx225_11, hx225_12, hx225_13, hl225_1, hi225_1, hl225_2, hi225_2, hl225_8, hi225_8, hl225_9, hi225_9⟩ := at_T38 HR0.out (ji6) p225 q225
         have hw225_13 := hx225_13
         have hw225_12 := hx225_12
         have hw225_11 := hx225_11
         have hw225_10 := hx225_10
         have hw225_9 := hx225_9
         have hw225_8 := hx225_8
         have hw225_7 := hx225_7
         have hw225_6 := hx225_6
         have hw225_5 := hx225_5
         have hw225_4 := hx225_4
         have hw225_3 := hx225_3
         have hw225_2 := hx225_2
         have hw225_1 := hx225_1
         have hw225_0 := hx225_0
         obtain rfl : ad224 = ad225 := (by injection e225)
         replace hx225_0 := (HB.out.cell (World.block_lt_of_cell? w _ hx225_0)).trans hx225_0
         replace hx225_1 := (HB.out.cell (World.block_lt_of_cell? w _ hx225_1)).trans hx225_1
         replace hx225_2 := (HB.out.cell (World.block_lt_of_cell? w _ hx225_2)).trans hx225_2
         replace hx225_3 := (HB.out.cell (World.block_lt_of_cell? w _ hx225_3)).trans hx225_3
         replace hx225_4 := (HB.out.cell (World.block_lt_of_cell? w _ hx225_4)).trans hx225_4
         replace hx225_5 := (HB.out.cell (World.block_lt_of_cell? w _ hx225_5)).trans hx225_5
         replace hx225_6 := (HB.out.cell (World.block_lt_of_cell? w _ hx225_6)).trans hx225_6
         replace hx225_7 := (HB.out.cell (World.block_lt_of_cell? w _ hx225_7)).trans hx225_7
         replace hx225_8 := (HB.out.cell (World.block_lt_of_cell? w _ hx225_8)).trans hx225_8
         replace hx225_9 := (HB.out.cell (World.block_lt_of_cell? w _ hx225_9)).trans hx225_9
         replace hx225_10 := (HB.out.cell (World.block_lt_of_cell? w _ hx225_10)).trans hx225_10
         replace hx225_11 := (HB.out.cell (World.block_lt_of_cell? w _ hx225_11)).trans hx225_11
         replace hx225_12 := (HB.out.cell (World.block_lt_of_cell? w _ hx225_12)).trans hx225_12
         replace hx225_13 := (HB.out.cell (World.block_lt_of_cell? w _ hx225_13)).trans hx225_13
         have HR225_1 := Aside0.mk hi225_1
         have HC225_1 := Aside0.mk hl225_1
         clear hi225_1 hl225_1
         have HR225_2 := Aside0.mk hi225_2
         have HC225_2 := Aside0.mk hl225_2
         clear hi225_2 hl225_2
         have HR225_8 := Aside0.mk hi225_8
         have HC225_8 := Aside0.mk hl225_8
         clear hi225_8 hl225_8
         have HR225_9 := Aside0.mk hi225_9
         have HC225_9 := Aside0.mk hl225_9
         clear hi225_9 hl225_9
         replace p225 := eq_true p225
         replace q225 := eq_true q225
         refine start_ (n := 12) (S := fun w' => w'.cell? (ad224.add ((x5_1).toNat * 14)) = some (.int .i64 ((rd_T38 l0 x5_1).f0)) ∧ w'.cell? ⟨(ad224.add ((x5_1).toNat * 14)).block, (ad224.add ((x5_1).toNat * 14)).off + 1, none⟩ = some (.slice A224_1 ((rd_T38 l0 x5_1).f1.f0).length c224_1) ∧ w'.cell? ⟨(ad224.add ((x5_1).toNat * 14)).block, (ad224.add ((x5_1).toNat * 14)).off + 2, none⟩ = some (.slice A224_2 ((rd_T38 l0 x5_1).f1.f1).length c224_2) ∧ w'.cell? ⟨(ad224.add ((x5_1).toNat * 14)).block, (ad224.add ((x5_1).toNat * 14)).off + 3, none⟩ = some (.int .i64 ((rd_T38 l0 x5_1).f1.f2)) ∧ w'.cell? ⟨(ad224.add ((x5_1).toNat * 14)).block, (ad224.add ((x5_1).toNat * 14)).off + 4, none⟩ = some (.int .i64 ((rd_T38 l0 x5_1).f1.f3)) ∧ w'.cell? ⟨(ad224.add ((x5_1).toNat * 14)).block, (ad224.add ((x5_1).toNat * 14)).off + 5, none⟩ = some (.int .i64 ((rd_T38 l0 x5_1).f1.f4)) ∧ w'.cell? ⟨(ad224.add ((x5_1).toNat * 14)).block, (ad224.add ((x5_1).toNat * 14)).off + 6, none⟩ = some (.int .i64 ((rd_T38 l0 x5_1).f1.f5)) ∧ w'.cell? ⟨(ad224.add ((x5_1).toNat * 14)).block, (ad224.add ((x5_1).toNat * 14)).off + 7, none⟩ = some (.bool ((rd_T38 l0 x5_1).f2)) ∧ w'.cell? ⟨(ad224.add ((x5_1).toNat * 14)).block, (ad224.add ((x5_1).toNat * 14)).off + 8, none⟩ = some (.slice A224_8 ((rd_T38 l0 x5_1).f3.f0).length c224_8) ∧ w'.cell? ⟨(ad224.add ((x5_1).toNat * 14)).block, (ad224.add ((x5_1).toNat * 14)).off + 9, none⟩ = some (.slice A224_9 ((rd_T38 l0 x5_1).f3.f1).length c224_9) ∧ w'.cell? ⟨(ad224.add ((x5_1).toNat * 14)).block, (ad224.add ((x5_1).toNat * 14)).off + 10, none⟩ = some (.int .i64 ((rd_T38 l0 x5_1).f3.f2)) ∧ w'.cell? ⟨(ad224.add ((x5_1).toNat * 14)).block, (ad224.add ((x5_1).toNat * 14)).off + 11, none⟩ = some (.int .i64 ((rd_T38 l0 x5_1).f3.f3)) ∧ w'.cell? ⟨(ad224.add ((x5_1).toNat * 14)).block, (ad224.add ((x5_1).toNat * 14)).off + 12, none⟩ = some (.int .i64 ((rd_T38 l0 x5_1).f3.f4)) ∧ w'.cell? ⟨(ad224.add ((x5_1).toNat * 14)).block, (ad224.add ((x5_1).toNat * 14)).off + 13, none⟩ = some (.int .i64 ((rd_T38 l0 x5_1).f3.f5)) ∧ w'.cell? (ad224.add (((ji6)).toNat * 14)) = some (.int .i64 ((rd_T38 l0 (ji6)).f0)) ∧ w'.cell? ⟨(ad224.add (((ji6)).toNat * 14)).block, (ad224.add (((ji6)).toNat * 14)).off + 1, none⟩ = some (.slice A225_1 ((rd_T38 l0 (ji6)).f1.f0).length c225_1) ∧ w'.cell? ⟨(ad224.add (((ji6)).toNat * 14)).block, (ad224.add (((ji6)).toNat * 14)).off + 2, none⟩ = some (.slice A225_2 ((rd_T38 l0 (ji6)).f1.f1).length c225_2) ∧ w'.cell? ⟨(ad224.add (((ji6)).toNat * 14)).block, (ad224.add (((ji6)).toNat * 14)).off + 3, none⟩ = some (.int .i64 ((rd_T38 l0 (ji6)).f1.f2)) ∧ w'.cell? ⟨(ad224.add (((ji6)).toNat * 14)).block, (ad224.add (((ji6)).toNat * 14)).off + 4, none⟩ = some (.int .i64 ((rd_T38 l0 (ji6)).f1.f3)) ∧ w'.cell? ⟨(ad224.add (((ji6)).toNat * 14)).block, (ad224.add (((ji6)).toNat * 14)).off + 5, none⟩ = some (.int .i64 ((rd_T38 l0 (ji6)).f1.f4)) ∧ w'.cell? ⟨(ad224.add (((ji6)).toNat * 14)).block, (ad224.add (((ji6)).toNat * 14)).off + 6, none⟩ = some (.int .i64 ((rd_T38 l0 (ji6)).f1.f5)) ∧ w'.cell? ⟨(ad224.add (((ji6)).toNat * 14)).block, (ad224.add (((ji6)).toNat * 14)).off + 7, none⟩ = some (.bool ((rd_T38 l0 (ji6)).f2)) ∧ w'.cell? ⟨(ad224.add (((ji6)).toNat * 14)).block, (ad224.add (((ji6)).toNat * 14)).off + 8, none⟩ = some (.slice A225_8 ((rd_T38 l0 (ji6)).f3.f0).length c225_8) ∧ w'.cell? ⟨(ad224.add (((ji6)).toNat * 14)).block, (ad224.add (((ji6)).toNat * 14)).off + 9, none⟩ = some (.slice A225_9 ((rd_T38 l0 (ji6)).f3.f1).length c225_9) ∧ w'.cell? ⟨(ad224.add (((ji6)).toNat * 14)).block, (ad224.add (((ji6)).toNat * 14)).off + 10, none⟩ = some (.int .i64 ((rd_T38 l0 (ji6)).f3.f2)) ∧ w'.cell? ⟨(ad224.add (((ji6)).toNat * 14)).block, (ad224.add (((ji6)).toNat * 14)).off + 11, none⟩ = some (.int .i64 ((rd_T38 l0 (ji6)).f3.f3)) ∧ w'.cell? ⟨(ad224.add (((ji6)).toNat * 14)).block, (ad224.add (((ji6)).toNat * 14)).off + 12, none⟩ = some (.int .i64 ((rd_T38 l0 (ji6)).f3.f4)) ∧ w'.cell? ⟨(ad224.add (((ji6)).toNat * 14)).block, (ad224.add (((ji6)).toNat * 14)).off + 13, none⟩ = some (.int .i64 ((rd_T38 l0 (ji6)).f3.f5))) (ds := []) zb27_0 (by kernel_rfl) rfl rfl ⟨((HB.out.cell (World.block_lt_of_cell? w _ hw224_0)).trans hw224_0), ((HB.out.cell (World.block_lt_of_cell? w _ hw224_1)).trans hw224_1), ((HB.out.cell (World.block_lt_of_cell? w _ hw224_2)).trans hw224_2), ((HB.out.cell (World.block_lt_of_cell? w _ hw224_3)).trans hw224_3), ((HB.out.cell (World.block_lt_of_cell? w _ hw224_4)).trans hw224_4), ((HB.out.cell (World.block_lt_of_cell? w _ hw224_5)).trans hw224_5), ((HB.out.cell (World.block_lt_of_cell? w _ hw224_6)).trans hw224_6), ((HB.out.cell (World.block_lt_of_cell? w _ hw224_7)).trans hw224_7), ((HB.out.cell (World.block_lt_of_cell? w _ hw224_8)).trans hw224_8), ((HB.out.cell (World.block_lt_of_cell? w _ hw224_9)).trans hw224_9), ((HB.out.cell (World.block_lt_of_cell? w _ hw224_10)).trans hw224_10), ((HB.out.cell (World.block_lt_of_cell? w _ hw224_11)).trans hw224_11), ((HB.out.cell (World.block_lt_of_cell? w _ hw224_12)).trans hw224_12), ((HB.out.cell (World.block_lt_of_cell? w _ hw224_13)).trans hw224_13), ((HB.out.cell (World.block_lt_of_cell? w _ hw225_0)).trans hw225_0), ((HB.out.cell (World.block_lt_of_cell? w _ hw225_1)).trans hw225_1), ((HB.out.cell (World.block_lt_of_cell? w _ hw225_2)).trans hw225_2), ((HB.out.cell (World.block_lt_of_cell? w _ hw225_3)).trans hw225_3), ((HB.out.cell (World.block_lt_of_cell? w _ hw225_4)).trans hw225_4), ((HB.out.cell (World.block_lt_of_cell? w _ hw225_5)).trans hw225_5), ((HB.out.cell (World.block_lt_of_cell? w _ hw225_6)).trans hw225_6), ((HB.out.cell (World.block_lt_of_cell? w _ hw225_7)).trans hw225_7), ((HB.out.cell (World.block_lt_of_cell? w _ hw225_8)).trans hw225_8), ((HB.out.cell (World.block_lt_of_cell? w _ hw225_9)).trans hw225_9), ((HB.out.cell (World.block_lt_of_cell? w _ hw225_10)).trans hw225_10), ((HB.out.cell (World.block_lt_of_cell? w _ hw225_11)).trans hw225_11), ((HB.out.cell (World.block_lt_of_cell? w _ hw225_12)).trans hw225_12), ((HB.out.cell (World.block_lt_of_cell? w _ hw225_13)).trans hw225_13)⟩ (fun hHeld => ?_); refine with_tabW api_Event_27.tab4 api_Event_27.bits4 (fun HT_ HW_ => ?_)
         generalize wr.drew = w13 at HB HR224_1 HR224_2 HR224_8 HR224_9 HR225_1 HR225_2 HR225_8 HR225_9 hx224_0 hx224_1 hx224_10 hx224_11 hx224_12 hx224_13 hx224_2 hx224_3 hx224_4 hx224_5 hx224_6 hx224_7 hx224_8 hx224_9 hx225_0 hx225_1 hx225_10 hx225_11 hx225_12 hx225_13 hx225_2 hx225_3 hx225_4 hx225_5 hx225_6 hx225_7 hx225_8 hx225_9 hHeld ⊢
         refine pure_ (i := 0) (N := some 13) (v := ?_) (a' := ?_) zb27_1 rfl rfl (any_of HT_.out (by kernel_rfl)) (fun _ _ _ h => h) (Or.inl ⟨by rfl, ?_⟩) ?_ ?_
         rotate_left
         · intro w'; go_simp; with_reducible rfl
         rotate_left
         · simp only [Act.put, Ext.sb, Ext.sz, Ext.ss, i64_w, i32_w]; rfl
         refine pure_ (i := 1) (N := some 14) (v := ?_) (a' := ?_) zb27_2 rfl rfl (any_of HT_.out (by kernel_rfl)) (fun _ _ _ h => h) (Or.inl ⟨by rfl, ?_⟩) ?_ ?_
         rotate_left
         · intro w'; go_simp; with_reducible rfl
         rotate_left
         · simp only [Act.put, Ext.sb, Ext.sz, Ext.ss, i64_w, i32_w]; rfl
         refine pure_ (i := 2) (N := some 15) (v := ?_) (a' := ?_) zb27_3 rfl rfl (any_of HT_.out (by kernel_rfl)) (fun _ _ _ h => h) (Or.inl ⟨by rfl, ?_⟩) ?_ ?_
         rotate_left
         · intro w'; go_simp; with_reducible rfl
         rotate_left
         · simp only [Act.put, Ext.sb, Ext.sz, Ext.ss, i64_w, i32_w]; rfl
         refine pure_ (i := 3) (N := some 16) (v := ?_) (a' := ?_) zb27_4 rfl rfl (any_of HT_.out (by kernel_rfl)) (fun _ _ _ h => h) (Or.inl ⟨by rfl, ?_⟩) ?_ ?_
         rotate_left
         · intro w'; go_simp; with_reducible rfl
         rotate_left
         · simp only [Act.put, Ext.sb, Ext.sz, Ext.ss, i64_w, i32_w]; rfl
         refine pure_ (i := 5) (N := some 18) (v := ?_) (a' := ?_) zb27_5 rfl rfl (any_of HT_.out (by kernel_rfl)) (fun _ _ _ h => h) (Or.inl ⟨by rfl, ?_⟩) ?_ ?_
         rotate_left
         · intro w'; go_simp; with_reducible rfl
         rotate_left
         · simp only [Act.put, Ext.sb, Ext.sz, Ext.ss, i64_w, i32_w]; rfl
         refine pure_ (i := 6) (N := some 19) (v := ?_) (a' := ?_) zb27_6 rfl rfl (any_of HT_.out (by kernel_rfl)) (fun _ _ _ h => h) (Or.inl ⟨by rfl, ?_⟩) ?_ ?_
         rotate_left
         · intro w'; go_simp; with_reducible rfl
         rotate_left
         · simp only [Act.put, Ext.sb, Ext.sz, Ext.ss, i64_w, i32_w]; rfl
         refine pure_ (i := 7) (N := some 20) (v := ?_) (a' := ?_) zb27_7 rfl rfl (any_of HT_.out (by kernel_rfl)) (fun _ _ _ h => h) (Or.inl ⟨by rfl, ?_⟩) ?_ ?_
         rotate_left
         · intro w'; go_simp; with_reducible rfl
         rotate_left
         · simp only [Act.put, Ext.sb, Ext.sz, Ext.ss, i64_w, i32_w]; rfl
         refine pure_ (i := 8) (N := some 21) (v := ?_) (a' := ?_) zb27_8 rfl rfl (any_of HT_.out (by kernel_rfl)) (fun _ _ _ h => h) (Or.inl ⟨by rfl, ?_⟩) ?_ ?_
         rotate_left
         · intro w'; go_simp; with_reducible rfl
         rotate_left
         · simp only [Act.put, Ext.sb, Ext.sz, Ext.ss, i64_w, i32_w]; rfl
         refine take_ (i := 4) (N := some 17) (v := ?_) (a' := ?_) #[true, true, true, true, true, true, true, true, true, false, false, false] rfl rfl (take_ofW HT_.out HW_.out (by kernel_rfl)) (fun _ _ _ h => h) (Or.inl ⟨by rfl, ?_⟩) hHeld ?_ ?_
         rotate_left
         · rintro w' ⟨s0, s1, s2, s3, s4, s5, s6, s7, s8, s9, s10, s11, s12, s13, s14, s15, s16, s17, s18, s19, s20, s21, s22, s23, s24, s25, s26, s27⟩; go_simp; with_reducible rfl
         rotate_left
         · simp only [Act.put, Ext.sb, Ext.sz, Ext.ss, i64_w, i32_w]; rfl
         refine take_ (i := 9) (N := some 22) (v := ?_) (a' := ?_) #[true, true, true, true, true, true, true, true, true, true, false, false] rfl rfl (take_ofW HT_.out HW_.out (by kernel_rfl)) (fun _ _ _ h => h) (Or.inl ⟨by rfl, ?_⟩) hHeld ?_ ?_
         rotate_left
         · rintro w' ⟨s0, s1, s2, s3, s4, s5, s6, s7, s8, s9, s10, s11, s12, s13, s14, s15, s16, s17, s18, s19, s20, s21, s22, s23, s24, s25, s26, s27⟩; go_simp; with_reducible rfl
         rotate_left
         · simp only [Act.put, Ext.sb, Ext.sz, Ext.ss, i64_w, i32_w]; rfl
         refine one_ (i := 10) (N := some 23) #[true, true, true, true, true, true, true, true, true, true, true, false] rfl rfl (one_of HT_.out (by kernel_rfl)) (by decide) (fun K hK => ?_)
         refine Ext.goesV_ Try.func28 (by kernel_rfl) rfl #[.agg #[.int .i64 ((rd_T38 l0 x5_1).f0), .slice A224_1 ((rd_T38 l0 x5_1).f1.f0).length c224_1, .slice A224_2 ((rd_T38 l0 x5_1).f1.f1).length c224_2, .int .i64 ((rd_T38 l0 x5_1).f1.f2), .int .i64 ((rd_T38 l0 x5_1).f1.f3), .int .i64 ((rd_T38 l0 x5_1).f1.f4), .int .i64 ((rd_T38 l0 x5_1).f1.f5), .bool ((rd_T38 l0 x5_1).f2), .slice A224_8 ((rd_T38 l0 x5_1).f3.f0).length c224_8, .slice A224_9 ((rd_T38 l0 x5_1).f3.f1).length c224_9, .int .i64 ((rd_T38 l0 x5_1).f3.f2), .int .i64 ((rd_T38 l0 x5_1).f3.f3), .int .i64 ((rd_T38 l0 x5_1).f3.f4), .int .i64 ((rd_T38 l0 x5_1).f3.f5)], .agg #[.int .i64 ((rd_T38 l0 (ji6)).f0), .slice A225_1 ((rd_T38 l0 (ji6)).f1.f0).length c225_1, .slice A225_2 ((rd_T38 l0 (ji6)).f1.f1).length c225_2, .int .i64 ((rd_T38 l0 (ji6)).f1.f2), .int .i64 ((rd_T38 l0 (ji6)).f1.f3), .int .i64 ((rd_T38 l0 (ji6)).f1.f4), .int .i64 ((rd_T38 l0 (ji6)).f1.f5), .bool ((rd_T38 l0 (ji6)).f2), .slice A225_8 ((rd_T38 l0 (ji6)).f3.f0).length c225_8, .slice A225_9 ((rd_T38 l0 (ji6)).f3.f1).length c225_9, .int .i64 ((rd_T38 l0 (ji6)).f3.f2), .int .i64 ((rd_T38 l0 (ji6)).f3.f3), .int .i64 ((rd_T38 l0 (ji6)).f3.f4), .int .i64 ((rd_T38 l0 (ji6)).f3.f5)]] (by rfl) rfl rfl (by (try simp only [List.map_toArray, List.map_cons, List.map_nil]); first | done | (simp only [hji6]; rfl) | rfl | (simp only [List.length_drop, List.length_take]; rfl)) ?_
         with_reducible refine (batch_Right_1.calls ((rd_T38 l0 x5_1).f0) _ _ ((rd_T38 l0 x5_1).f1.f0) _ _ ((rd_T38 l0 x5_1).f1.f1) ((rd_T38 l0 x5_1).f1.f2) ((rd_T38 l0 x5_1).f1.f3) ((rd_T38 l0 x5_1).f1.f4) ((rd_T38 l0 x5_1).f1.f5) ((rd_T38 l0 x5_1).f2) _ _ ((rd_T38 l0 x5_1).f3.f0) _ _ ((rd_T38 l0 x5_1).f3.f1) ((rd_T38 l0 x5_1).f3.f2) ((rd_T38 l0 x5_1).f3.f3) ((rd_T38 l0 x5_1).f3.f4) ((rd_T38 l0 x5_1).f3.f5) ((rd_T38 l0 (ji6)).f0) _ _ ((rd_T38 l0 (ji6)).f1.f0) _ _ ((rd_T38 l0 (ji6)).f1.f1) ((rd_T38 l0 (ji6)).f1.f2) ((rd_T38 l0 (ji6)).f1.f3) ((rd_T38 l0 (ji6)).f1.f4) ((rd_T38 l0 (ji6)).f1.f5) ((rd_T38 l0 (ji6)).f2) _ _ ((rd_T38 l0 (ji6)).f3.f0) _ _ ((rd_T38 l0 (ji6)).f3.f1) ((rd_T38 l0 (ji6)).f3.f2) ((rd_T38 l0 (ji6)).f3.f3) ((rd_T38 l0 (ji6)).f3.f4) ((rd_T38 l0 (ji6)).f3.f5) t226 _ ?side1 ?side2 ?side3 ?side4 ?side5 ?side6 ?side7 ?side8 ?side9 ?side10 ?side11 ?side12 ?side13 ?side14 ?side15 ?side16 A9.out).mono ?_
         (case side1 => repeat (first | exact (Kd.C_below HR224_1.out HB.out) | exact HR224_1.out | (with_reducible refine Kd.C_alloc ?_ _) | (with_reducible refine Kd.C_drewN ?_ _) | (with_reducible refine Kd.C_drew ?_)))
         (case side2 => exact HC224_1.out)
         (case side3 => repeat (first | exact (Kd.C_below HR224_2.out HB.out) | exact HR224_2.out | (with_reducible refine Kd.C_alloc ?_ _) | (with_reducible refine Kd.C_drewN ?_ _) | (with_reducible refine Kd.C_drew ?_)))
         (case side4 => exact HC224_2.out)
         (case side5 => repeat (first | exact (Kd.C_below HR224_8.out HB.out) | exact HR224_8.out | (with_reducible refine Kd.C_alloc ?_ _) | (with_reducible refine Kd.C_drewN ?_ _) | (with_reducible refine Kd.C_drew ?_)))
         (case side6 => exact HC224_8.out)
         (case side7 => repeat (first | exact (Kd.C_below HR224_9.out HB.out) | exact HR224_9.out | (with_reducible refine Kd.C_alloc ?_ _) | (with_reducible refine Kd.C_drewN ?_ _) | (with_reducible refine Kd.C_drew ?_)))
         (case side8 => exact HC224_9.out)
         (case side9 => repeat (first | exact (Kd.C_below HR225_1.out HB.out) | exact HR225_1.out | (with_reducible refine Kd.C_alloc ?_ _) | (with_reducible refine Kd.C_drewN ?_ _) | (with_reducible refine Kd.C_drew ?_)))
         (case side10 => exact HC225_1.out)
         (case side11 => repeat (first | exact (Kd.C_below HR225_2.out HB.out) | exact HR225_2.out | (with_reducible refine Kd.C_alloc ?_ _) | (with_reducible refine Kd.C_drewN ?_ _) | (with_reducible refine Kd.C_drew ?_)))
         (case side12 => exact HC225_2.out)
         (case side13 => repeat (first | exact (Kd.C_below HR225_8.out HB.out) | exact HR225_8.out | (with_reducible refine Kd.C_alloc ?_ _) | (with_reducible refine Kd.C_drewN ?_ _) | (with_reducible refine Kd.C_drew ?_)))
         (case side14 => exact HC225_8.out)
         (case side15 => repeat (first | exact (Kd.C_below HR225_9.out HB.out) | exact HR225_9.out | (with_reducible refine Kd.C_alloc ?_ _) | (with_reducible refine Kd.C_drewN ?_ _) | (with_reducible refine Kd.C_drew ?_)))
         (case side16 => exact HC225_9.out)
         rintro e w14 ⟨rfl, hb⟩
         refine ⟨_, rfl, ?_⟩
         have n0_ := Ext.a (below_step (Ext.nB HB.out) hb)
         clear HB
         have HB := n0_
         clear n0_
         (try clear hb)
         (try clear hb2)
         (try clear hk)
         (try clear hi)
         refine hK.out _ _ ⟨((HB.out.cell (World.block_lt_of_cell? w _ hw224_0)).trans hw224_0), ((HB.out.cell (World.block_lt_of_cell? w _ hw224_1)).trans hw224_1), ((HB.out.cell (World.block_lt_of_cell? w _ hw224_2)).trans hw224_2), ((HB.out.cell (World.block_lt_of_cell? w _ hw224_3)).trans hw224_3), ((HB.out.cell (World.block_lt_of_cell? w _ hw224_4)).trans hw224_4), ((HB.out.cell (World.block_lt_of_cell? w _ hw224_5)).trans hw224_5), ((HB.out.cell (World.block_lt_of_cell? w _ hw224_6)).trans hw224_6), ((HB.out.cell (World.block_lt_of_cell? w _ hw224_7)).trans hw224_7), ((HB.out.cell (World.block_lt_of_cell? w _ hw224_8)).trans hw224_8), ((HB.out.cell (World.block_lt_of_cell? w _ hw224_9)).trans hw224_9), ((HB.out.cell (World.block_lt_of_cell? w _ hw224_10)).trans hw224_10), ((HB.out.cell (World.block_lt_of_cell? w _ hw224_11)).trans hw224_11), ((HB.out.cell (World.block_lt_of_cell? w _ hw224_12)).trans hw224_12), ((HB.out.cell (World.block_lt_of_cell? w _ hw224_13)).trans hw224_13), ((HB.out.cell (World.block_lt_of_cell? w _ hw225_0)).trans hw225_0), ((HB.out.cell (World.block_lt_of_cell? w _ hw225_1)).trans hw225_1), ((HB.out.cell (World.block_lt_of_cell? w _ hw225_2)).trans hw225_2), ((HB.out.cell (World.block_lt_of_cell? w _ hw225_3)).trans hw225_3), ((HB.out.cell (World.block_lt_of_cell? w _ hw225_4)).trans hw225_4), ((HB.out.cell (World.block_lt_of_cell? w _ hw225_5)).trans hw225_5), ((HB.out.cell (World.block_lt_of_cell? w _ hw225_6)).trans hw225_6), ((HB.out.cell (World.block_lt_of_cell? w _ hw225_7)).trans hw225_7), ((HB.out.cell (World.block_lt_of_cell? w _ hw225_8)).trans hw225_8), ((HB.out.cell (World.block_lt_of_cell? w _ hw225_9)).trans hw225_9), ((HB.out.cell (World.block_lt_of_cell? w _ hw225_10)).trans hw225_10), ((HB.out.cell (World.block_lt_of_cell? w _ hw225_11)).trans hw225_11), ((HB.out.cell (World.block_lt_of_cell? w _ hw225_12)).trans hw225_12), ((HB.out.cell (World.block_lt_of_cell? w _ hw225_13)).trans hw225_13)⟩ (fun hHeld => ?_)
         clear hK K
         refine norm_ (a' := ?_) ?_ ?_
         rotate_left
         · show Act.put _ (some 23) _ = _; simp only [Act.put, Ext.sb, Ext.sz, Ext.ss, i64_w, i32_w]; rfl
         refine pure_ (i := 11) (N := some 24) (v := ?_) (a' := ?_) #[true, true, true, true, true, true, true, true, true, true, true, true] rfl rfl (any_of HT_.out (by kernel_rfl)) (fun _ _ _ h => h) (Or.inl ⟨by rfl, ?_⟩) ?_ ?_
         rotate_left
         · intro w'; go_simp; with_reducible rfl
         rotate_left
         · simp only [Act.put, Ext.sb, Ext.sz, Ext.ss, i64_w, i32_w]; rfl
         refine done_ (done_of HT_.out (by kernel_rfl)) ?_
         try go_wp2
         go_roundg k1
         case measure => have := HK1.out; omega
         case rel => exact ⟨(ji6), (by first | rfl | (simp; done) | (simp only [← hji6] <;> (first | rfl | simp)) | (simp [*]; done)), H', ⟨by have := HK1.out; omega⟩, ⟨by repeat (first | (with_reducible first | exact HB.out | apply Ext.ba | apply Ext.bn | apply Ext.bd) | exact HB.out | exact .refl _ _)⟩⟩
       · rw [if_neg c8] at H; exact absurd H (by simp)
      · rw [if_neg c7] at H; exact absurd H (by simp)
     · rw [if_neg c5] at H; exact absurd H (by simp)
    · rw [if_neg c4] at H; exact absurd H (by simp)
   ·
    rw [if_neg c3] at H
    have c3b0 : decide (0 < x5_1) = false := decide_eq_false c3
    clear c3
    obtain rfl := Option.some.inj H
    go_wp2
    go_ret
    exact ⟨by first | rfl | (simp [errW_none, errW_some] <;> rfl) | (simp [*, errW_none, errW_some] <;> rfl), by repeat (first | (with_reducible first | exact HB.out | apply Ext.ba | apply Ext.bn | apply Ext.bd) | exact HB.out | exact .refl _ _)⟩

end Go.Proofs.Ytdakdlgkhnjhoaa.PW
