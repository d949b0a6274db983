-- Written by wip/printx.py, a program of this work over the kit's print, for this claim.
import Derived.Test.YtandeendeoempaaPCx0
namespace Go.Proofs.Ytandeendeoempaa.PC
open Go.RowKit Go.Proofs.YtandeendeoempaaW.PrintWords Go.Proofs.YtandeendeoempaaW.PrintLast Go.Proofs.YtandeendeoempaaW.PrintMore
attribute [local go_sem] max2_int min2_int max_two min_two max_three min_three max_four min_four   -- for this text's walks alone
attribute [local go_sem] Ext.pick_u8 Ext.pick_u32 Ext.pick_u64
set_option linter.unusedVariables false
set_option linter.unusedSimpArgs false



/-! ### terrierref01_Ahead: function 45 -/
def terrierref01_Ahead.l0 : Nat → List Int → List Int → Int → Option (Bool)
 | 0, _, _, _ => none
 | k + 1, x0, x1, x5 => if x5 < (x1.length : Int) then (if x5 ≥ (x0.length : Int) then (some true) else (if 0 ≤ x5 then (if x5 < (x0.length : Int) then (if (rd x0 x5) = (rd x1 x5) then (terrierref01_Ahead.l0 k x0 x1 (wrap64 (x5 + 1))) else (some (decide ((rd x0 x5) < (rd x1 x5))))) else (none)) else (none))) else (some false)
def terrierref01_Ahead.f (k : Nat) (l0 : List Int) (l1 : List Int) : Option (Bool) := terrierref01_Ahead.l0 k l0 l1 0
theorem terrierref01_Ahead.mono_l : ∀ k, (∀ y0 y1 y2, LeO (terrierref01_Ahead.l0 k y0 y1 y2) (terrierref01_Ahead.l0 (k + 1) y0 y1 y2))
 | 0 => fun _ _ _ r h => by simp [terrierref01_Ahead.l0] at h
 | k + 1 => by
  have ih0 := terrierref01_Ahead.mono_l k
  ·
   intro y0 y1 y2
   unfold terrierref01_Ahead.l0
   repeat' first
   | (with_reducible exact ih0 _ _ _)
   | (with_reducible exact LeO.refl _)
   | (with_reducible exact LeO.none _)
   | (with_reducible refine LeO.ite ?_ ?_)
   | (with_reducible refine LeO.bind ?_ (fun _ => ?_))
   | exact ih0 _ _ _
   | exact LeO.none _
   | refine LeO.ite ?_ ?_
   | refine LeO.bind ?_ (fun _ => ?_)
theorem terrierref01_Ahead.mono : ∀ a0 a1 k, LeO (terrierref01_Ahead.f k a0 a1) (terrierref01_Ahead.f (k + 1) a0 a1) := by
 intro a0 a1 k
 have ih0 := terrierref01_Ahead.mono_l k; unfold terrierref01_Ahead.f
 repeat' first
   | (with_reducible exact ih0 _ _ _)
   | (with_reducible exact LeO.refl _)
   | (with_reducible exact LeO.none _)
   | (with_reducible refine LeO.ite ?_ ?_)
   | (with_reducible refine LeO.bind ?_ (fun _ => ?_))
   | exact ih0 _ _ _
   | exact LeO.none _
   | refine LeO.ite ?_ ?_
   | refine LeO.bind ?_ (fun _ => ?_)
set_option maxHeartbeats 8000000 in
set_option maxRecDepth 100000 in
theorem terrierref01_Ahead.calls (k : Nat) (A0 : Option Addr) (c0 : Nat) (l0 : List Int) (A1 : Option Addr) (c1 : Nat) (l1 : List Int) (r : Bool) (w : World) (hr0 : Kd.C (Kd.int .u8) w A0 l0.length l0) (hc0 : l0.length ≤ c0) (hr1 : Kd.C (Kd.int .u8) w A1 l1.length l1) (hc1 : l1.length ≤ c1) (h : terrierref01_Ahead.f k l0 l1 = some r) :
  Calls Try.prog 45 #[.slice A0 l0.length c0, .slice A1 l1.length c1] w fun e w' => e = .returned (.bool r) ∧ Drawn0 w w' := by
 have HR0 := Aside0.mk hr0; have HC0 := Aside0.mk hc0; clear hr0 hc0; have HR1 := Aside0.mk hr1; have HC1 := Aside0.mk hc1; clear hr1 hc1; have H := h; unfold terrierref01_Ahead.f at H; clear h; have H' := Aside0.mk H; clear H
 go_enter Try.func45, Try.ntmps45
 go_wp2
 repeat (go_quiet (fail); try go_wp2)
 go_loopg [5] k (fun kq v5 w' => ∃ (x5_1 : Int), v5 = .int .i64 x5_1 ∧ Aside0 (terrierref01_Ahead.l0 kq l0 l1 x5_1 = some r) ∧ Aside0 (kq ≤ k) ∧ Drawn0 w w')
 case atStart => exact ⟨(0), (by first | rfl | (simp; done) | (simp [*]; done)), H', ⟨Nat.le_refl _⟩, by repeat (first | exact Drawn0.refl _ | apply Drawn0.step)⟩
 case round =>
  clear H'; (try clear c1 p2); obtain ⟨x5_1, rfl, HA, HK1, ⟨m1, rfl⟩⟩ := hrel; cases gk with
  | zero => exact absurd HA.out (by simp [terrierref01_Ahead.l0])
  | succ k1 =>
   have H := HA.out; clear HA; simp only [terrierref01_Ahead.l0] at H
   by_cases c3 : x5_1 < (l1.length : Int)
   ·
    rw [if_pos c3] at H; have c3b0 := decide_eq_true c3; clear c3
    by_cases c4 : x5_1 ≥ (l0.length : Int)
    ·
     rw [if_pos c4] at H; have c4b0 := decide_eq_true c4; clear c4; obtain rfl := Option.some.inj H
     go_wp2
     repeat (go_quiet (fail); try go_wp2)
     go_ret
     exact ⟨by first | rfl | (simp; done) | (simp [*]; done), by repeat (first | exact Drawn0.refl _ | apply Drawn0.step)⟩
    ·
     rw [if_neg c4] at H; have c4b0 := decide_eq_false c4; clear c4
     by_cases c5 : 0 ≤ x5_1
     ·
      rw [if_pos c5] at H; have c5b0 := decide_eq_true c5; clear c5
      by_cases c6 : x5_1 < (l0.length : Int)
      ·
       rw [if_pos c6] at H; have c6b0 := decide_eq_true c6; clear c6
       by_cases c7 : (rd l0 x5_1) = (rd l1 x5_1)
       ·
        rw [if_pos c7] at H; obtain ⟨c7b0, c7b1⟩ := Ext.eT c7; clear c7; have H' := Aside0.mk H; clear H; have p258 : 0 ≤ (x5_1 : Int) := of_decide_eq_true (by first | (with_reducible assumption) | assumption); have q258 : x5_1 < (l0.length : Int) := of_decide_eq_true (by first | (with_reducible assumption) | assumption); obtain ⟨ad258, e258, hx258_0⟩ := Kd.at_int HR0.out x5_1 p258 q258; cases e258; replace p258 := eq_true p258; replace q258 := eq_true q258; have p259 : 0 ≤ (x5_1 : Int) := of_decide_eq_true (by first | (with_reducible assumption) | assumption); have q259 : x5_1 < (l1.length : Int) := of_decide_eq_true (by first | (with_reducible assumption) | assumption); obtain ⟨ad259, e259, hx259_0⟩ := Kd.at_int HR1.out x5_1 p259 q259; cases e259; replace p259 := eq_true p259; replace q259 := eq_true q259
        go_wp2
        repeat (go_quiet (fail); try go_wp2)
        go_roundg k1
        case measure => have := HK1.out; omega
        case rel => exact ⟨(wrap64 (x5_1 + 1)), (by first | rfl | (simp; done) | (simp [*]; done)), H', ⟨by have := HK1.out; omega⟩, by repeat (first | exact Drawn0.refl _ | apply Drawn0.step)⟩
       ·
        rw [if_neg c7] at H; obtain ⟨c7b0, c7b1⟩ := Ext.eF c7; obtain rfl := Option.some.inj H; have p258 : 0 ≤ (x5_1 : Int) := of_decide_eq_true (by first | (with_reducible assumption) | assumption); have q258 : x5_1 < (l0.length : Int) := of_decide_eq_true (by first | (with_reducible assumption) | assumption); obtain ⟨ad258, e258, hx258_0⟩ := Kd.at_int HR0.out x5_1 p258 q258; cases e258; replace p258 := eq_true p258; replace q258 := eq_true q258; have p259 : 0 ≤ (x5_1 : Int) := of_decide_eq_true (by first | (with_reducible assumption) | assumption); have q259 : x5_1 < (l1.length : Int) := of_decide_eq_true (by first | (with_reducible assumption) | assumption); obtain ⟨ad259, e259, hx259_0⟩ := Kd.at_int HR1.out x5_1 p259 q259; cases e259; replace p259 := eq_true p259; replace q259 := eq_true q259; have p260 : 0 ≤ (x5_1 : Int) := of_decide_eq_true (by first | (with_reducible assumption) | assumption); have q260 : x5_1 < (l0.length : Int) := of_decide_eq_true (by first | (with_reducible assumption) | assumption); obtain ⟨ad260, e260, hx260_0⟩ := Kd.at_int HR0.out x5_1 p260 q260; obtain rfl : ad258 = ad260 := (by injection e260); replace p260 := eq_true p260; replace q260 := eq_true q260; have p261 : 0 ≤ (x5_1 : Int) := of_decide_eq_true (by first | (with_reducible assumption) | assumption); have q261 : x5_1 < (l1.length : Int) := of_decide_eq_true (by first | (with_reducible assumption) | assumption); obtain ⟨ad261, e261, hx261_0⟩ := Kd.at_int HR1.out x5_1 p261 q261; obtain rfl : ad259 = ad261 := (by injection e261)
        replace p261 := eq_true p261; replace q261 := eq_true q261
        go_wp2
        repeat (go_quiet (fail); try go_wp2)
        go_ret
        exact ⟨by first | rfl | (simp; done) | (simp [*]; done), by repeat (first | exact Drawn0.refl _ | apply Drawn0.step)⟩
      · rw [if_neg c6] at H; exact absurd H (by simp)
     · rw [if_neg c5] at H; exact absurd H (by simp)
   ·
    rw [if_neg c3] at H; have c3b0 := decide_eq_false c3; clear c3; obtain rfl := Option.some.inj H
    go_wp2
    repeat (go_quiet (fail); try go_wp2)
    go_ret
    exact ⟨by first | rfl | (simp; done) | (simp [*]; done), by repeat (first | exact Drawn0.refl _ | apply Drawn0.step)⟩

end Go.Proofs.Ytandeendeoempaa.PC
