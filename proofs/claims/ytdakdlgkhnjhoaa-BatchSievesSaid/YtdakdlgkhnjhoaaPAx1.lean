-- Written by wip/printx.py, a program of this work over the kit's print, for this claim.
import Derived.Test.YtdakdlgkhnjhoaaPAx0
namespace Go.Proofs.Ytdakdlgkhnjhoaa.PA
open Go.RowKit Go.Proofs.YtdakdlgkhnjhoaaW.PrintWords Go.Proofs.YtdakdlgkhnjhoaaW.PrintLast Go.Proofs.YtdakdlgkhnjhoaaW.PrintMore
attribute [local go_sem] max2_int min2_int max_two min_two max_three min_three max_four min_four   -- for this text's walks alone
attribute [local go_sem] Ext.pick_u8 Ext.pick_u32 Ext.pick_u64
set_option linter.unusedVariables false
set_option linter.unusedSimpArgs false



/-! ### batch_cut: function 29 -/
mutual
def batch_cut.l0 : Nat → List (S38) → Int → Int → Option (Int)
 | 0, _, _, _ => none
 | k + 1, x0, x1, x5 => if x5 < (x0.length : Int) then (batch_cut.l1 k x0 x1 x5 (wrap64 (x5 + 1))) else (some x5)
def batch_cut.l1 : Nat → List (S38) → Int → Int → Int → Option (Int)
 | 0, _, _, _, _ => none
 | k + 1, x0, x1, x5, x6 => if x6 < (x0.length : Int) then (if 0 ≤ x6 then (if 0 ≤ x5 then (if x5 < (x0.length : Int) then (if ((rd_T38 x0 x6).f1.f3) = ((rd_T38 x0 x5).f1.f3) then (batch_cut.l1 k x0 x1 x5 (wrap64 (x6 + 1))) else (if x5 > 0 then (if x6 > x1 then (some x5) else (batch_cut.l0 k x0 x1 x6)) else (batch_cut.l0 k x0 x1 x6))) else (none)) else (none)) else (none)) else (if x5 > 0 then (if x6 > x1 then (some x5) else (batch_cut.l0 k x0 x1 x6)) else (batch_cut.l0 k x0 x1 x6))
end
def batch_cut.f (k : Nat) (l0 : List (S38)) (a1 : Int) : Option (Int) := batch_cut.l0 k l0 a1 0
theorem batch_cut.mono_l : ∀ k, (∀ y0 y1 y2, LeO (batch_cut.l0 k y0 y1 y2) (batch_cut.l0 (k + 1) y0 y1 y2)) ∧ (∀ y0 y1 y2 y3, LeO (batch_cut.l1 k y0 y1 y2 y3) (batch_cut.l1 (k + 1) y0 y1 y2 y3))
 | 0 => ⟨fun _ _ _ r h => by simp [batch_cut.l0] at h, fun _ _ _ _ r h => by simp [batch_cut.l1] at h⟩
 | k + 1 => by
  obtain ⟨ih0, ih1⟩ := batch_cut.mono_l k; refine ⟨?_, ?_⟩
  ·
   intro y0 y1 y2
   unfold batch_cut.l0
   repeat' first
   | (with_reducible exact ih0 _ _ _)
   | (with_reducible exact ih1 _ _ _ _)
   | (with_reducible exact LeO.refl _)
   | (with_reducible exact LeO.none _)
   | (with_reducible refine LeO.ite ?_ ?_)
   | (with_reducible refine LeO.bind ?_ (fun _ => ?_))
   | exact ih0 _ _ _
   | exact ih1 _ _ _ _
   | exact LeO.none _
   | refine LeO.ite ?_ ?_
   | refine LeO.bind ?_ (fun _ => ?_)
  ·
   intro y0 y1 y2 y3
   unfold batch_cut.l1
   repeat' first
   | (with_reducible exact ih0 _ _ _)
   | (with_reducible exact ih1 _ _ _ _)
   | (with_reducible exact LeO.refl _)
   | (with_reducible exact LeO.none _)
   | (with_reducible refine LeO.ite ?_ ?_)
   | (with_reducible refine LeO.bind ?_ (fun _ => ?_))
   | exact ih0 _ _ _
   | exact ih1 _ _ _ _
   | exact LeO.none _
   | refine LeO.ite ?_ ?_
   | refine LeO.bind ?_ (fun _ => ?_)
theorem batch_cut.mono : ∀ a0 a1 k, LeO (batch_cut.f k a0 a1) (batch_cut.f (k + 1) a0 a1) := by
 intro a0 a1 k
 obtain ⟨ih0, ih1⟩ := batch_cut.mono_l k; unfold batch_cut.f
 repeat' first
   | (with_reducible exact ih0 _ _ _)
   | (with_reducible exact ih1 _ _ _ _)
   | (with_reducible exact LeO.refl _)
   | (with_reducible exact LeO.none _)
   | (with_reducible refine LeO.ite ?_ ?_)
   | (with_reducible refine LeO.bind ?_ (fun _ => ?_))
   | exact ih0 _ _ _
   | exact ih1 _ _ _ _
   | exact LeO.none _
   | refine LeO.ite ?_ ?_
   | refine LeO.bind ?_ (fun _ => ?_)
set_option maxHeartbeats 8000000 in
set_option maxRecDepth 100000 in
theorem batch_cut.calls (k : Nat) (A0 : Option Addr) (c0 : Nat) (l0 : List (S38)) (a1 : Int) (r : Int) (w : World) (hr0 : Kd.C k38 w A0 l0.length l0) (hc0 : l0.length ≤ c0) (h : batch_cut.f k l0 a1 = some r) :
  Calls Try.prog 29 #[.slice A0 l0.length c0, .int .i64 a1] w fun e w' => e = .returned (.int .i64 r) ∧ Drawn0 w w' := by
 have HR0 := Aside0.mk hr0; have HC0 := Aside0.mk hc0; clear hr0 hc0; have H := h; unfold batch_cut.f at H; clear h; have H' := Aside0.mk H; clear H
 go_enter Try.func29, Try.ntmps29
 go_wp2
 repeat (go_quiet (fail); try go_wp2)
 go_loopg [5] k (fun kq v5 w' => ∃ (x5_1 : Int), v5 = .int .i64 x5_1 ∧ Aside0 (batch_cut.l0 kq l0 a1 x5_1 = some r) ∧ Aside0 (kq ≤ k) ∧ Drawn0 w w')
 case atStart => exact ⟨(0), (by first | rfl | (simp; done) | (simp [*]; done)), H', ⟨Nat.le_refl _⟩, by repeat (first | exact Drawn0.refl _ | apply Drawn0.step)⟩
 case round =>
  clear H'; (try clear c2 p2); obtain ⟨x5_1, rfl, HA, HK1, ⟨m1, rfl⟩⟩ := hrel; cases gk with
  | zero => exact absurd HA.out (by simp [batch_cut.l0])
  | succ k1 =>
   have H := HA.out; clear HA; simp only [batch_cut.l0] at H
   by_cases c3 : x5_1 < (l0.length : Int)
   ·
    rw [if_pos c3] at H; have c3b0 := decide_eq_true c3; clear c3; have H' := Aside0.mk H; clear H
    go_wp2
    repeat (go_quiet (fail); try go_wp2)
    go_loopg [6] k1 (fun kq v6 w' => ∃ (x6_2 : Int), v6 = .int .i64 x6_2 ∧ Aside0 (batch_cut.l1 kq l0 a1 x5_1 x6_2 = some r) ∧ Aside0 (kq ≤ k1) ∧ Drawn0 w w')
    case atStart => exact ⟨(wrap64 (x5_1 + 1)), (by first | rfl | (simp; done) | (simp [*]; done)), H', ⟨Nat.le_refl _⟩, by repeat (first | exact Drawn0.refl _ | apply Drawn0.step)⟩
    case round =>
     clear H'; (try clear c3b0); obtain ⟨x6_2, rfl, HA, HK2, ⟨m2, rfl⟩⟩ := hrel; cases gk with
     | zero => exact absurd HA.out (by simp [batch_cut.l1])
     | succ k2 =>
      have H := HA.out; clear HA; simp only [batch_cut.l1] at H
      by_cases c4 : x6_2 < (l0.length : Int)
      ·
       rw [if_pos c4] at H; have c4b0 := decide_eq_true c4; clear c4
       by_cases c5 : 0 ≤ x6_2
       ·
        rw [if_pos c5] at H; have c5b0 := decide_eq_true c5; clear c5
        by_cases c6 : 0 ≤ x5_1
        ·
         rw [if_pos c6] at H; have c6b0 := decide_eq_true c6; clear c6
         by_cases c7 : x5_1 < (l0.length : Int)
         ·
          rw [if_pos c7] at H; have c7b0 := decide_eq_true c7; clear c7
          by_cases c8 : ((rd_T38 l0 x6_2).f1.f3) = ((rd_T38 l0 x5_1).f1.f3)
          ·
           rw [if_pos c8] at H; obtain ⟨c8b0, c8b1⟩ := Ext.eT c8; clear c8; have H' := Aside0.mk H; clear H; have p101 : 0 ≤ (x6_2 : Int) := of_decide_eq_true (by first | (with_reducible assumption) | assumption); have q101 : x6_2 < (l0.length : Int) := of_decide_eq_true (by first | (with_reducible assumption) | assumption); obtain ⟨ad101, A101_1, c101_1, A101_2, c101_2, A101_8, c101_8, A101_9, c101_9, e101, hx101_0, hx101_1, hx101_2, hx101_3, hx101_4, hx101_5, hx101_6, hx101_7, hx101_8, hx101_9, hx101_10, hx101_11, hx101_12, hx101_13, hl101_1, hi101_1, hl101_2, hi101_2, hl101_8, hi101_8, hl101_9, hi101_9⟩ := at_T38 HR0.out x6_2 p101 q101; cases e101; have HR101_1 := Aside0.mk hi101_1; have HC101_1 := Aside0.mk hl101_1; clear hi101_1 hl101_1; have HR101_2 := Aside0.mk hi101_2; have HC101_2 := Aside0.mk hl101_2; clear hi101_2 hl101_2; have HR101_8 := Aside0.mk hi101_8; have HC101_8 := Aside0.mk hl101_8; clear hi101_8 hl101_8; have HR101_9 := Aside0.mk hi101_9; have HC101_9 := Aside0.mk hl101_9; clear hi101_9 hl101_9; replace p101 := eq_true p101; replace q101 := eq_true q101; have p102 : 0 ≤ (x5_1 : Int) := of_decide_eq_true (by first | (with_reducible assumption) | assumption); have q102 : x5_1 < (l0.length : Int) := of_decide_eq_true (by first | (with_reducible assumption) | assumption); obtain ⟨ad102, A102_1, c102_1, A102_2, c102_2, A102_8, c102_8, A102_9, c102_9, e102, hx102_0, hx102_1, hx102_2, hx102_3, hx102_4, hx102_5, hx102_6, hx102_7, hx102_8, hx102_9, hx102_10, hx102_11, hx102_12, hx102_13, hl102_1, hi102_1, hl102_2, hi102_2, hl102_8, hi102_8, hl102_9, hi102_9⟩ := at_T38 HR0.out x5_1 p102 q102
           obtain rfl : ad101 = ad102 := (by injection e102); have HR102_1 := Aside0.mk hi102_1; have HC102_1 := Aside0.mk hl102_1; clear hi102_1 hl102_1; have HR102_2 := Aside0.mk hi102_2; have HC102_2 := Aside0.mk hl102_2; clear hi102_2 hl102_2; have HR102_8 := Aside0.mk hi102_8; have HC102_8 := Aside0.mk hl102_8; clear hi102_8 hl102_8; have HR102_9 := Aside0.mk hi102_9; have HC102_9 := Aside0.mk hl102_9; clear hi102_9 hl102_9; replace p102 := eq_true p102; replace q102 := eq_true q102
           go_wp2
           repeat (go_quiet (fail); try go_wp2)
           go_roundg k2
           case measure => have := HK1.out; have := HK2.out; omega
           case rel => exact ⟨(wrap64 (x6_2 + 1)), (by first | rfl | (simp; done) | (simp [*]; done)), H', ⟨by have := HK1.out; have := HK2.out; omega⟩, by repeat (first | exact Drawn0.refl _ | apply Drawn0.step)⟩
          ·
           rw [if_neg c8] at H; obtain ⟨c8b0, c8b1⟩ := Ext.eF c8
           by_cases c9 : x5_1 > 0
           ·
            rw [if_pos c9] at H; have c9b0 := decide_eq_true c9; clear c9
            by_cases c10 : x6_2 > a1
            ·
             rw [if_pos c10] at H; have c10b0 := decide_eq_true c10; clear c10; obtain rfl := Option.some.inj H; have p101 : 0 ≤ (x6_2 : Int) := of_decide_eq_true (by first | (with_reducible assumption) | assumption); have q101 : x6_2 < (l0.length : Int) := of_decide_eq_true (by first | (with_reducible assumption) | assumption); obtain ⟨ad101, A101_1, c101_1, A101_2, c101_2, A101_8, c101_8, A101_9, c101_9, e101, hx101_0, hx101_1, hx101_2, hx101_3, hx101_4, hx101_5, hx101_6, hx101_7, hx101_8, hx101_9, hx101_10, hx101_11, hx101_12, hx101_13, hl101_1, hi101_1, hl101_2, hi101_2, hl101_8, hi101_8, hl101_9, hi101_9⟩ := at_T38 HR0.out x6_2 p101 q101; cases e101; have HR101_1 := Aside0.mk hi101_1; have HC101_1 := Aside0.mk hl101_1; clear hi101_1 hl101_1; have HR101_2 := Aside0.mk hi101_2; have HC101_2 := Aside0.mk hl101_2; clear hi101_2 hl101_2; have HR101_8 := Aside0.mk hi101_8; have HC101_8 := Aside0.mk hl101_8; clear hi101_8 hl101_8; have HR101_9 := Aside0.mk hi101_9; have HC101_9 := Aside0.mk hl101_9; clear hi101_9 hl101_9; replace p101 := eq_true p101; replace q101 := eq_true q101; have p102 : 0 ≤ (x5_1 : Int) := of_decide_eq_true (by first | (with_reducible assumption) | assumption); have q102 : x5_1 < (l0.length : Int) := of_decide_eq_true (by first | (with_reducible assumption) | assumption); obtain ⟨ad102, A102_1, c102_1, A102_2, c102_2, A102_8, c102_8, A102_9, c102_9, e102, hx102_0, hx102_1, hx102_2, hx102_3, hx102_4, hx102_5, hx102_6, hx102_7, hx102_8, hx102_9, hx102_10, hx102_11, hx102_12, hx102_13, hl102_1, hi102_1, hl102_2, hi102_2, hl102_8, hi102_8, hl102_9, hi102_9⟩ := at_T38 HR0.out x5_1 p102 q102
             obtain rfl : ad101 = ad102 := (by injection e102); have HR102_1 := Aside0.mk hi102_1; have HC102_1 := Aside0.mk hl102_1; clear hi102_1 hl102_1; have HR102_2 := Aside0.mk hi102_2; have HC102_2 := Aside0.mk hl102_2; clear hi102_2 hl102_2; have HR102_8 := Aside0.mk hi102_8; have HC102_8 := Aside0.mk hl102_8; clear hi102_8 hl102_8; have HR102_9 := Aside0.mk hi102_9; have HC102_9 := Aside0.mk hl102_9; clear hi102_9 hl102_9; replace p102 := eq_true p102; replace q102 := eq_true q102
             go_wp2
             repeat (go_quiet (fail); try go_wp2)
             go_ret
             exact ⟨by first | rfl | (simp; done) | (simp [*]; done), by repeat (first | exact Drawn0.refl _ | apply Drawn0.step)⟩
            ·
             rw [if_neg c10] at H; have c10b0 := decide_eq_false c10; clear c10; have H' := Aside0.mk H; clear H; have p101 : 0 ≤ (x6_2 : Int) := of_decide_eq_true (by first | (with_reducible assumption) | assumption); have q101 : x6_2 < (l0.length : Int) := of_decide_eq_true (by first | (with_reducible assumption) | assumption); obtain ⟨ad101, A101_1, c101_1, A101_2, c101_2, A101_8, c101_8, A101_9, c101_9, e101, hx101_0, hx101_1, hx101_2, hx101_3, hx101_4, hx101_5, hx101_6, hx101_7, hx101_8, hx101_9, hx101_10, hx101_11, hx101_12, hx101_13, hl101_1, hi101_1, hl101_2, hi101_2, hl101_8, hi101_8, hl101_9, hi101_9⟩ := at_T38 HR0.out x6_2 p101 q101; cases e101; have HR101_1 := Aside0.mk hi101_1; have HC101_1 := Aside0.mk hl101_1; clear hi101_1 hl101_1; have HR101_2 := Aside0.mk hi101_2; have HC101_2 := Aside0.mk hl101_2; clear hi101_2 hl101_2; have HR101_8 := Aside0.mk hi101_8; have HC101_8 := Aside0.mk hl101_8; clear hi101_8 hl101_8; have HR101_9 := Aside0.mk hi101_9; have HC101_9 := Aside0.mk hl101_9; clear hi101_9 hl101_9; replace p101 := eq_true p101; replace q101 := eq_true q101; have p102 : 0 ≤ (x5_1 : Int) := of_decide_eq_true (by first | (with_reducible assumption) | assumption); have q102 : x5_1 < (l0.length : Int) := of_decide_eq_true (by first | (with_reducible assumption) | assumption); obtain ⟨ad102, A102_1, c102_1, A102_2, c102_2, A102_8, c102_8, A102_9, c102_9, e102, hx102_0, hx102_1, hx102_2, hx102_3, hx102_4, hx102_5, hx102_6, hx102_7, hx102_8, hx102_9, hx102_10, hx102_11, hx102_12, hx102_13, hl102_1, hi102_1, hl102_2, hi102_2, hl102_8, hi102_8, hl102_9, hi102_9⟩ := at_T38 HR0.out x5_1 p102 q102
             obtain rfl : ad101 = ad102 := (by injection e102); have HR102_1 := Aside0.mk hi102_1; have HC102_1 := Aside0.mk hl102_1; clear hi102_1 hl102_1; have HR102_2 := Aside0.mk hi102_2; have HC102_2 := Aside0.mk hl102_2; clear hi102_2 hl102_2; have HR102_8 := Aside0.mk hi102_8; have HC102_8 := Aside0.mk hl102_8; clear hi102_8 hl102_8; have HR102_9 := Aside0.mk hi102_9; have HC102_9 := Aside0.mk hl102_9; clear hi102_9 hl102_9; replace p102 := eq_true p102; replace q102 := eq_true q102
             go_wp2
             repeat (go_quiet (fail); try go_wp2)
             go_roundg k2
             case measure => have := HK1.out; have := HK2.out; omega
             case rel => exact ⟨(x6_2), (by first | rfl | (simp; done) | (simp [*]; done)), H', ⟨by have := HK1.out; have := HK2.out; omega⟩, by repeat (first | exact Drawn0.refl _ | apply Drawn0.step)⟩
           ·
            rw [if_neg c9] at H; have c9b0 := decide_eq_false c9; clear c9; have H' := Aside0.mk H; clear H; have p101 : 0 ≤ (x6_2 : Int) := of_decide_eq_true (by first | (with_reducible assumption) | assumption); have q101 : x6_2 < (l0.length : Int) := of_decide_eq_true (by first | (with_reducible assumption) | assumption); obtain ⟨ad101, A101_1, c101_1, A101_2, c101_2, A101_8, c101_8, A101_9, c101_9, e101, hx101_0, hx101_1, hx101_2, hx101_3, hx101_4, hx101_5, hx101_6, hx101_7, hx101_8, hx101_9, hx101_10, hx101_11, hx101_12, hx101_13, hl101_1, hi101_1, hl101_2, hi101_2, hl101_8, hi101_8, hl101_9, hi101_9⟩ := at_T38 HR0.out x6_2 p101 q101; cases e101; have HR101_1 := Aside0.mk hi101_1; have HC101_1 := Aside0.mk hl101_1; clear hi101_1 hl101_1; have HR101_2 := Aside0.mk hi101_2; have HC101_2 := Aside0.mk hl101_2; clear hi101_2 hl101_2; have HR101_8 := Aside0.mk hi101_8; have HC101_8 := Aside0.mk hl101_8; clear hi101_8 hl101_8; have HR101_9 := Aside0.mk hi101_9; have HC101_9 := Aside0.mk hl101_9; clear hi101_9 hl101_9; replace p101 := eq_true p101; replace q101 := eq_true q101; have p102 : 0 ≤ (x5_1 : Int) := of_decide_eq_true (by first | (with_reducible assumption) | assumption); have q102 : x5_1 < (l0.length : Int) := of_decide_eq_true (by first | (with_reducible assumption) | assumption); obtain ⟨ad102, A102_1, c102_1, A102_2, c102_2, A102_8, c102_8, A102_9, c102_9, e102, hx102_0, hx102_1, hx102_2, hx102_3, hx102_4, hx102_5, hx102_6, hx102_7, hx102_8, hx102_9, hx102_10, hx102_11, hx102_12, hx102_13, hl102_1, hi102_1, hl102_2, hi102_2, hl102_8, hi102_8, hl102_9, hi102_9⟩ := at_T38 HR0.out x5_1 p102 q102
            obtain rfl : ad101 = ad102 := (by injection e102); have HR102_1 := Aside0.mk hi102_1; have HC102_1 := Aside0.mk hl102_1; clear hi102_1 hl102_1; have HR102_2 := Aside0.mk hi102_2; have HC102_2 := Aside0.mk hl102_2; clear hi102_2 hl102_2; have HR102_8 := Aside0.mk hi102_8; have HC102_8 := Aside0.mk hl102_8; clear hi102_8 hl102_8; have HR102_9 := Aside0.mk hi102_9; have HC102_9 := Aside0.mk hl102_9; clear hi102_9 hl102_9; replace p102 := eq_true p102; replace q102 := eq_true q102
            go_wp2
            repeat (go_quiet (fail); try go_wp2)
            go_roundg k2
            case measure => have := HK1.out; have := HK2.out; omega
            case rel => exact ⟨(x6_2), (by first | rfl | (simp; done) | (simp [*]; done)), H', ⟨by have := HK1.out; have := HK2.out; omega⟩, by repeat (first | exact Drawn0.refl _ | apply Drawn0.step)⟩
         · rw [if_neg c7] at H; exact absurd H (by simp)
        · rw [if_neg c6] at H; exact absurd H (by simp)
       · rw [if_neg c5] at H; exact absurd H (by simp)
      ·
       rw [if_neg c4] at H; have c4b0 := decide_eq_false c4; clear c4
       by_cases c11 : x5_1 > 0
       ·
        rw [if_pos c11] at H; have c11b0 := decide_eq_true c11; clear c11
        by_cases c12 : x6_2 > a1
        ·
         rw [if_pos c12] at H; have c12b0 := decide_eq_true c12; clear c12; obtain rfl := Option.some.inj H
         go_wp2
         repeat (go_quiet (fail); try go_wp2)
         go_ret
         exact ⟨by first | rfl | (simp; done) | (simp [*]; done), by repeat (first | exact Drawn0.refl _ | apply Drawn0.step)⟩
        ·
         rw [if_neg c12] at H; have c12b0 := decide_eq_false c12; clear c12; have H' := Aside0.mk H; clear H
         go_wp2
         repeat (go_quiet (fail); try go_wp2)
         go_roundg k2
         case measure => have := HK1.out; have := HK2.out; omega
         case rel => exact ⟨(x6_2), (by first | rfl | (simp; done) | (simp [*]; done)), H', ⟨by have := HK1.out; have := HK2.out; omega⟩, by repeat (first | exact Drawn0.refl _ | apply Drawn0.step)⟩
       ·
        rw [if_neg c11] at H; have c11b0 := decide_eq_false c11; clear c11; have H' := Aside0.mk H; clear H
        go_wp2
        repeat (go_quiet (fail); try go_wp2)
        go_roundg k2
        case measure => have := HK1.out; have := HK2.out; omega
        case rel => exact ⟨(x6_2), (by first | rfl | (simp; done) | (simp [*]; done)), H', ⟨by have := HK1.out; have := HK2.out; omega⟩, by repeat (first | exact Drawn0.refl _ | apply Drawn0.step)⟩
   ·
    rw [if_neg c3] at H; have c3b0 := decide_eq_false c3; clear c3; obtain rfl := Option.some.inj H
    go_wp2
    repeat (go_quiet (fail); try go_wp2)
    go_ret
    exact ⟨by first | rfl | (simp; done) | (simp [*]; done), by repeat (first | exact Drawn0.refl _ | apply Drawn0.step)⟩

/-! ### bytes_Clone: function 38 -/
def bytes_Clone.f (l0 : List Int) : Option (List Int) := if l0.length < 140737488355328 then some l0 else none
set_option maxHeartbeats 8000000 in
set_option maxRecDepth 100000 in
theorem bytes_Clone.calls (A0 : Option Addr) (c0 : Nat) (l0 : List Int) (r : List Int) (w : World) (hr0 : Kd.C (Kd.int .u8) w A0 l0.length l0) (hc0 : l0.length ≤ c0) (h : bytes_Clone.f l0 = some r) :
    Calls Try.prog 38 #[.slice A0 l0.length c0] w fun e w' => ∃ v0_ : Value, e = .returned (v0_) ∧ Kd.R (Kd.int .u8) 5 w' w.heap.size (fun _ => True) v0_ r ∧ Below w.heap.size w w' := by
  have HR0 := Aside0.mk hr0; have HC0 := Aside0.mk hc0; unfold bytes_Clone.f at h
  by_cases c2 : l0.length < 140737488355328
  case neg => rw [if_neg c2] at h; cases h
  rw [if_pos c2] at h; obtain rfl := Option.some.inj h; have LMc2 := Aside0.mk c2
  have heq := fun W : World => Lib.run_eql_slice_nil (P := Try.prog) W 26 5 A0 l0.length c0 0 0 Try.underlying26
  rcases A0 with _ | ad0
  · have h0 : l0 = [] := by
      have hn : l0.length = 0 := by
        rcases Nat.eq_zero_or_pos l0.length with h0 | h0
        · exact h0
        · obtain ⟨ad, h', _⟩ := (Kd.reads_of_C (enc := Value.int .u8) (d := (0 : Int)) (h1 := fun _ => rfl) hr0).2.2 h0
          cases h'
      exact List.eq_nil_of_length_eq_zero hn
    subst h0; clear hr0 hc0 c2 h HR0 HC0 LMc2; simp only [Option.isNone_none, List.length_nil] at heq
    go_enter Try.func38, Try.ntmps38
    go_wp2
    go_ret
    exact ⟨_, rfl, Kd.R_nil _ _ _ _ _, Below.refl _ _⟩
  · clear hr0 hc0 c2 h
    simp only [Option.isNone_some] at heq; have HB := Aside0.mk (Below.refl w.heap.size w); obtain ⟨y101, hy101⟩ : ∃ y_ : List Int, y_ = (([] : List Int)) := ⟨_, rfl⟩; have Ny101 := Aside0.mk hy101; clear hy101
    go_enter Try.func38, Try.ntmps38
    go_wp2_with (first | ((with_reducible refine gate_dst (N := 5) rfl ?_); refine Kd.R_lit (Kd.int .u8) _ 5 ?hg (N := 5) ?hd (xs := ([] : List Int)) (inner := []) (ok := fun _ => True) (okp := fun _ => True) ?hr ?hp (fun _ hk => hk) trivial (Below.refl _ _) (Nat.le_refl _) (by simp) ?_; (case hd => rfl); (case hg => rfl); (case hr => first | (go_simp; done) | (go_simp; rfl)); (case hp => exact (Reps.none _ _)); intro v102 w3 ho4 hb hg_ hnew_; clear hg_ hnew_; (first | rw [← Ny101.out] at ho4 | (simp only [Int.reduceToNat] at ho4; rw [← Ny101.out] at ho4)); have n0_ := Aside0.mk (Kd.R_lower ho4 (below_size (by repeat (first | (with_reducible first | exact HB.out | apply below_alloc | apply pw_below_drewN | apply below_drew1) | exact HB.out)))); have n1_ := Aside0.mk (below_step (by repeat (first | (with_reducible first | exact HB.out | apply below_alloc | apply pw_below_drewN | apply below_drew1) | exact HB.out)) hb); clear HB; have HO103 := n0_; have HB := n1_; clear n0_ n1_; clear hb ho4) | ((with_reducible refine gate_builtin (b := .append) (xs := #[.tmp 5, .tmp 6]) rfl ?_); at_builtin; refine Kd.R_append_rows (Kd.int .u8) (w0 := w) w.heap.size rfl (.tmp 5) (.tmp 6) 26 5 (.int .u8 0) 1 rfl Try.underlying26 info5 rfl (by decide) (by omega) v102 y101 l0 _ _ _ (fun _ => True) (fun _ => False) rfl rfl ?aO ?aR (fun _ _ h => h) (fun _ h => h.elim) ?aF ?aB ?aS ?aL ?_; (case aR => repeat (first | exact (Kd.C_below HR0.out HB.out) | (with_reducible refine Kd.C_alloc ?_ _) | (with_reducible refine Kd.C_drewN ?_ _) | (with_reducible refine Kd.C_drew ?_))); (case aB => exact (by repeat (first | (with_reducible first | exact HB.out | apply below_alloc | apply pw_below_drewN | apply below_drew1) | exact HB.out))); (case aF => exact (fun _ _ => trivial)); (case aO => exact (by exact Ext.nR HO103.out)); (case aS => exact (below_size (by repeat (first | (with_reducible first | exact HB.out | apply below_alloc | apply pw_below_drewN | apply below_drew1) | exact HB.out)))); (case aL => have := LMc2.out; have := Ny101.out; subst this; simp; omega); intro v105 w5 ho hb hg hat; rw [Ny101.out, List.nil_append] at ho; have n0_ := Aside0.mk (hb); have n1_ := Aside0.mk (ho); clear HB; clear HO103; have HB := n0_; have HO106 := n1_; clear n0_ n1_; clear ho hb hg hat))
    go_ret
    exact ⟨_, rfl, by exact Ext.nR HO106.out, by repeat (first | (with_reducible first | exact HB.out | apply below_alloc | apply pw_below_drewN | apply below_drew1) | exact HB.out)⟩

end Go.Proofs.Ytdakdlgkhnjhoaa.PA
