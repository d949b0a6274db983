-- Written by wip/printx.py, a program of this work over the kit's print, for this claim.
import Derived.Test.YtfkihcdonddcoaaPCx0
namespace Go.Proofs.Ytfkihcdonddcoaa.PC
open Go.RowKit Go.Proofs.YtfkihcdonddcoaaW.PrintWords Go.Proofs.YtfkihcdonddcoaaW.PrintLast Go.Proofs.YtfkihcdonddcoaaW.PrintMore
attribute [local go_sem] max2_int min2_int max_two min_two max_three min_three max_four min_four   -- for this text's walks alone
attribute [local go_sem] Ext.pick_u8 Ext.pick_u32 Ext.pick_u64
set_option linter.unusedVariables false
set_option linter.unusedSimpArgs false

/-! ### sum_half: function 37 -/
def halfS (low x i c : Int) : Int := if (Go.bits .and .u32 (low / 2 ^ i.toNat) 1 == 1) = true then Go.bits .xor .u32 c x else c
def halfN (a : Int) (j : Int) : Int :=
  let low := Go.bits .and .u32 a 15
  if j = 0 then a / 16 else if j = 1 then halfS low 274646895 0 (a / 16) else if j = 2 then halfS low 549293790 1 (halfS low 274646895 0 (a / 16))
  else if j = 3 then halfS low 1098587580 2 (halfS low 549293790 1 (halfS low 274646895 0 (a / 16)))
  else halfS low 2197175160 3 (halfS low 1098587580 2 (halfS low 549293790 1 (halfS low 274646895 0 (a / 16))))
def sum_half.f (a0 : Int) : Option Int := some (halfN a0 4)
set_option maxHeartbeats 8000000 in
set_option maxRecDepth 100000 in
theorem sum_half.calls (a0 : Int) (r : Int) (w : World) (h : sum_half.f a0 = some r) :
    Calls Try.prog 37 #[.int .u32 a0] w fun e w' => e = .returned (.int .u32 r) ∧ Drawn0 w w' := by
  obtain rfl := Option.some.inj h
  clear h
  have ix : ∀ W : World, ∀ j : Int, (j = 0 ∨ j = 1 ∨ j = 2 ∨ j = 3) → (Instr.index 66 (.agg #[.int .u32 274646895, .int .u32 549293790, .int .u32 1098587580, .int .u32 2197175160]) (.int .i64 j)).run Try.prog W = .ok (.int .u32 (if j = 0 then 274646895 else if j = 1 then 549293790 else if j = 2 then 1098587580 else 2197175160)) W := by
    intro W j hj
    rcases hj with rfl | rfl | rfl | rfl <;> rfl
  have ix0 := fun W => ix W 0 (by omega)
  have ix1 := fun W => ix W 1 (by omega)
  have ix2 := fun W => ix W 2 (by omega)
  have ix3 := fun W => ix W 3 (by omega)
  clear ix
  simp only [Int.reduceEq, if_true, if_false] at ix0 ix1 ix2 ix3
  go_enter Try.func37, Try.ntmps37
  go_wp2
  go_loop [0, 11] (fun v0 v11 => ∃ j : Int, 0 ≤ j ∧ j ≤ 4 ∧ v0 = .int .u32 (halfN a0 j) ∧ v11 = .int .i64 j) (fun _ v11 => 4 - (intOf v11).toNat)
  case atStart => exact ⟨0, by omega, by omega, by simp [halfN], rfl⟩
  case round =>
    obtain ⟨j, hj0, hj, rfl, rfl⟩ := hrel
    have hc : j = 0 ∨ j = 1 ∨ j = 2 ∨ j = 3 ∨ j = 4 := by omega
    rcases hc with rfl | rfl | rfl | rfl | rfl
    · go_wp2
      all_goals first | (rename_i hcond; refine ⟨⟨1, by omega, by omega, ?_, rfl⟩, by simp [intOf]⟩; simp only [halfN, halfS] at *; simp_all; done) | trace_state
    · go_wp2
      all_goals first | (rename_i hcond; refine ⟨⟨2, by omega, by omega, ?_, rfl⟩, by simp [intOf]⟩; simp only [halfN, halfS] at *; simp_all; done) | trace_state
    · go_wp2
      all_goals first | (rename_i hcond; refine ⟨⟨3, by omega, by omega, ?_, rfl⟩, by simp [intOf]⟩; simp only [halfN, halfS] at *; simp_all; done) | trace_state
    · go_wp2
      all_goals first | (rename_i hcond; refine ⟨⟨4, by omega, by omega, ?_, rfl⟩, by simp [intOf]⟩; simp only [halfN, halfS] at *; simp_all; done) | trace_state
    · go_wp2
      go_ret
      exact ⟨rfl, Drawn0.refl _⟩



/-! ### sum_Sum: function 34 -/
mutual
def sum_Sum.l0 : Nat → Int → List (List Int) → Int → Int → Option (Int)
 | 0, _, _, _, _ => none
 | k + 1, x3, x8, x9, x10 => if x10 < x9 then (if 0 ≤ x10 then (if x10 < (x8.length : Int) then (sum_Sum.l1 k x3 x8 x9 x10 (rd_L2 x8 x10) ((rd_L2 x8 x10).length : Int) 0) else (none)) else (none)) else (some (Go.bits .xor .u32 4294967295 x3))
def sum_Sum.l1 : Nat → Int → List (List Int) → Int → Int → List Int → Int → Int → Option (Int)
 | 0, _, _, _, _, _, _, _ => none
 | k + 1, x3, x8, x9, x10, x14, x15, x16 => if x16 < x15 then (if 0 ≤ x16 then (if x16 < (x14.length : Int) then ((sum_half.f (Go.bits .xor .u32 x3 ((rd x14 x16) % 4294967296))).bind fun t112 => ((sum_half.f t112).bind fun t113 => (sum_Sum.l1 k t113 x8 x9 x10 x14 x15 (wrap64 (x16 + 1))))) else (none)) else (none)) else (sum_Sum.l0 k x3 x8 x9 (wrap64 (x10 + 1)))
end
def sum_Sum.f (k : Nat) (l0 : List (List Int)) : Option (Int) := sum_Sum.l0 k 4294967295 l0 (l0.length : Int) 0
theorem sum_Sum.mono_l : ∀ k, (∀ y0 y1 y2 y3, LeO (sum_Sum.l0 k y0 y1 y2 y3) (sum_Sum.l0 (k + 1) y0 y1 y2 y3)) ∧ (∀ y0 y1 y2 y3 y4 y5 y6, LeO (sum_Sum.l1 k y0 y1 y2 y3 y4 y5 y6) (sum_Sum.l1 (k + 1) y0 y1 y2 y3 y4 y5 y6))
 | 0 => ⟨fun _ _ _ _ r h => by simp [sum_Sum.l0] at h, fun _ _ _ _ _ _ _ r h => by simp [sum_Sum.l1] at h⟩
 | k + 1 => by
  obtain ⟨ih0, ih1⟩ := sum_Sum.mono_l k
  refine ⟨?_, ?_⟩
  ·
   intro y0 y1 y2 y3
   unfold sum_Sum.l0
   repeat' first
   | (with_reducible exact ih0 _ _ _ _)
   | (with_reducible exact ih1 _ _ _ _ _ _ _)
   | (with_reducible exact LeO.refl _)
   | (with_reducible exact LeO.none _)
   | (with_reducible refine LeO.ite ?_ ?_)
   | (with_reducible refine LeO.bind ?_ (fun _ => ?_))
   | exact ih0 _ _ _ _
   | exact ih1 _ _ _ _ _ _ _
   | exact LeO.none _
   | refine LeO.ite ?_ ?_
   | refine LeO.bind ?_ (fun _ => ?_)
  ·
   intro y0 y1 y2 y3 y4 y5 y6
   unfold sum_Sum.l1
   repeat' first
   | (with_reducible exact ih0 _ _ _ _)
   | (with_reducible exact ih1 _ _ _ _ _ _ _)
   | (with_reducible exact LeO.refl _)
   | (with_reducible exact LeO.none _)
   | (with_reducible refine LeO.ite ?_ ?_)
   | (with_reducible refine LeO.bind ?_ (fun _ => ?_))
   | exact ih0 _ _ _ _
   | exact ih1 _ _ _ _ _ _ _
   | exact LeO.none _
   | refine LeO.ite ?_ ?_
   | refine LeO.bind ?_ (fun _ => ?_)
theorem sum_Sum.mono : ∀ a0 k, LeO (sum_Sum.f k a0) (sum_Sum.f (k + 1) a0) := by
 intro a0 k
 obtain ⟨ih0, ih1⟩ := sum_Sum.mono_l k
 unfold sum_Sum.f
 repeat' first
   | (with_reducible exact ih0 _ _ _ _)
   | (with_reducible exact ih1 _ _ _ _ _ _ _)
   | (with_reducible exact LeO.refl _)
   | (with_reducible exact LeO.none _)
   | (with_reducible refine LeO.ite ?_ ?_)
   | (with_reducible refine LeO.bind ?_ (fun _ => ?_))
   | exact ih0 _ _ _ _
   | exact ih1 _ _ _ _ _ _ _
   | exact LeO.none _
   | refine LeO.ite ?_ ?_
   | refine LeO.bind ?_ (fun _ => ?_)
set_option maxHeartbeats 8000000 in
set_option maxRecDepth 100000 in
theorem sum_Sum.calls (k : Nat) (A0 : Option Addr) (c0 : Nat) (l0 : List (List Int)) (r : Int) (w : World) (hr0 : Kd.C (Kd.slice 5 (Kd.int .u8)) w A0 l0.length l0) (hc0 : l0.length ≤ c0) (h : sum_Sum.f k l0 = some r) :
  Calls Try.prog 34 #[.slice A0 l0.length c0] w fun e w' => e = .returned (.int .u32 r) ∧ Drawn0 w w' := by
 have HR0 := Aside0.mk hr0
 have HC0 := Aside0.mk hc0
 clear hr0 hc0
 have H : (sum_Sum.l0 k 4294967295 l0 (l0.length : Int) 0) = some r := h
 clear h
 have H' := Aside0.mk H
 clear H
 go_enter Try.func34, Try.ntmps34
 go_wp2
 go_loopg [3, 10] k (fun kq v3 v10 w' => ∃ (x3_1 : Int) (x10_1 : Int), v3 = .int .u32 x3_1 ∧ v10 = .int .i64 x10_1 ∧ Aside0 (sum_Sum.l0 kq x3_1 l0 (l0.length : Int) x10_1 = some r) ∧ Aside0 (kq ≤ k) ∧ Drawn0 w w')
 case atStart => exact ⟨(4294967295), (0), (by first | rfl | (simp; done) | (simp [*]; done)), (by first | rfl | (simp; done) | (simp [*]; done)), H', ⟨Nat.le_refl _⟩, by repeat (first | exact Drawn0.refl _ | apply Drawn0.step)⟩
 case round =>
  clear H'
  obtain ⟨x3_1, x10_1, rfl, rfl, HA, HK1, ⟨m1, rfl⟩⟩ := hrel
  cases gk with
  | zero => exact absurd HA.out (by simp [sum_Sum.l0])
  | succ k1 =>
   have H := HA.out
   clear HA
   simp only [sum_Sum.l0] at H
   by_cases c2 : x10_1 < (l0.length : Int)
   ·
    rw [if_pos c2] at H
    have c2b0 : decide (x10_1 < (l0.length : Int)) = true := decide_eq_true c2
    clear c2
    by_cases c3 : 0 ≤ x10_1
    ·
     rw [if_pos c3] at H
     have c3b0 : decide (0 ≤ x10_1) = true := decide_eq_true c3
     clear c3
     by_cases c4 : x10_1 < (l0.length : Int)
     ·
      rw [if_pos c4] at H
      have c4b0 : decide (x10_1 < (l0.length : Int)) = true := decide_eq_true c4
      clear c4
      have H' := Aside0.mk H
      clear H
      have p110 : 0 ≤ (x10_1 : Int) := of_decide_eq_true (by first | (with_reducible assumption) | assumption)
      have q110 : x10_1 < (l0.length : Int) := of_decide_eq_true (by first | (with_reducible assumption) | assumption)
      obtain ⟨ad110, A110_0, c110_0, e110, hx110_0, hl110_0, hi110_0⟩ := at_L2 HR0.out x10_1 p110 q110
      cases e110
      have HR110_0 := Aside0.mk hi110_0
      have HC110_0 := Aside0.mk hl110_0
      clear hi110_0 hl110_0
      replace p110 := eq_true p110
      replace q110 := eq_true q110
      go_wp2
      go_loopg [3, 16] k1 (fun kq v3 v16 w' => ∃ (x3_2 : Int) (x16_2 : Int), v3 = .int .u32 x3_2 ∧ v16 = .int .i64 x16_2 ∧ Aside0 (sum_Sum.l1 kq x3_2 l0 (l0.length : Int) x10_1 (rd_L2 l0 x10_1) ((rd_L2 l0 x10_1).length : Int) x16_2 = some r) ∧ Aside0 (kq ≤ k1) ∧ Drawn0 w w')
      case atStart => exact ⟨(x3_1), (0), (by first | rfl | (simp; done) | (simp [*]; done)), (by first | rfl | (simp; done) | (simp [*]; done)), H', ⟨Nat.le_refl _⟩, by repeat (first | exact Drawn0.refl _ | apply Drawn0.step)⟩
      case round =>
       clear H'
       try clear c1
       try clear p1
       try clear q1
       try clear hx1
       try clear c2
       try clear c2b0
       try clear p2
       try clear c3
       try clear c3b0
       try clear c4
       try clear c4b0
       try clear hx110_0
       try clear p110
       try clear q110
       obtain ⟨x3_2, x16_2, rfl, rfl, HA, HK2, ⟨m2, rfl⟩⟩ := hrel
       cases gk with
       | zero => exact absurd HA.out (by simp [sum_Sum.l1])
       | succ k2 =>
        have H := HA.out
        clear HA
        simp only [sum_Sum.l1] at H
        by_cases c5 : x16_2 < ((rd_L2 l0 x10_1).length : Int)
        ·
         rw [if_pos c5] at H
         have c5b0 : decide (x16_2 < ((rd_L2 l0 x10_1).length : Int)) = true := decide_eq_true c5
         clear c5
         by_cases c6 : 0 ≤ x16_2
         ·
          rw [if_pos c6] at H
          have c6b0 : decide (0 ≤ x16_2) = true := decide_eq_true c6
          clear c6
          by_cases c7 : x16_2 < ((rd_L2 l0 x10_1).length : Int)
          ·
           rw [if_pos c7] at H
           have c7b0 : decide (x16_2 < ((rd_L2 l0 x10_1).length : Int)) = true := decide_eq_true c7
           clear c7
           replace H := Option.bind_eq_some_iff.mp H
           obtain ⟨t112, A80, H⟩ := H
           replace H : ((sum_half.f t112).bind fun t113 => (sum_Sum.l1 k2 t113 l0 (l0.length : Int) x10_1 (rd_L2 l0 x10_1) ((rd_L2 l0 x10_1).length : Int) (wrap64 (x16_2 + 1)))) = some r := H
           have A8 := Aside0.mk A80
           clear A80
           replace H := Option.bind_eq_some_iff.mp H
           obtain ⟨t113, A90, H⟩ := H
           replace H : (sum_Sum.l1 k2 t113 l0 (l0.length : Int) x10_1 (rd_L2 l0 x10_1) ((rd_L2 l0 x10_1).length : Int) (wrap64 (x16_2 + 1))) = some r := H
           have A9 := Aside0.mk A90
           clear A90
           have H' := Aside0.mk H
           clear H
           have p111 : 0 ≤ (x16_2 : Int) := of_decide_eq_true (by first | (with_reducible assumption) | assumption)
           have q111 : x16_2 < ((rd_L2 l0 x10_1).length : Int) := of_decide_eq_true (by first | (with_reducible assumption) | assumption)
           obtain ⟨ad111, e111, hx111_0⟩ := Kd.at_int HR110_0.out x16_2 p111 q111
           cases e111
           replace p111 := eq_true p111
           replace q111 := eq_true q111
           go_wp2_with (first | ((with_reducible refine gate_callee (f := 37) rfl ?_); refine goesL_ (some 24) rfl rfl Try.func37 (by kernel_rfl) rfl #[.int .u32 (Go.bits .xor .u32 x3_2 ((rd (rd_L2 l0 x10_1) x16_2) % 4294967296))] rfl (by (try simp only [List.map_toArray, List.map_cons, List.map_nil]); first | done | rfl | (simp only [List.length_drop, List.length_take]; rfl)) ?_; (with_reducible refine (sum_half.calls (Go.bits .xor .u32 x3_2 ((rd (rd_L2 l0 x10_1) x16_2) % 4294967296)) t112 _ A8.out).mono ?_); rintro e w' ⟨rfl, ⟨nd, rfl⟩⟩; refine ⟨_, rfl, ?_⟩) | ((with_reducible refine gate_callee (f := 37) rfl ?_); refine goesL_ (some 25) rfl rfl Try.func37 (by kernel_rfl) rfl #[.int .u32 t112] rfl (by (try simp only [List.map_toArray, List.map_cons, List.map_nil]); first | done | rfl | (simp only [List.length_drop, List.length_take]; rfl)) ?_; (with_reducible refine (sum_half.calls t112 t113 _ A9.out).mono ?_); rintro e w' ⟨rfl, ⟨nd, rfl⟩⟩; refine ⟨_, rfl, ?_⟩))
           go_roundg k2
           case measure => have := HK1.out; have := HK2.out; omega
           case rel => exact ⟨(t113), (wrap64 (x16_2 + 1)), (by first | rfl | (simp; done) | (simp [*]; done)), (by first | rfl | (simp; done) | (simp [*]; done)), H', ⟨by have := HK1.out; have := HK2.out; omega⟩, by repeat (first | exact Drawn0.refl _ | apply Drawn0.step)⟩
          · rw [if_neg c7] at H; exact absurd H (by simp)
         · rw [if_neg c6] at H; exact absurd H (by simp)
        ·
         rw [if_neg c5] at H
         have c5b0 : decide (x16_2 < ((rd_L2 l0 x10_1).length : Int)) = false := decide_eq_false c5
         clear c5
         have H' := Aside0.mk H
         clear H
         go_wp2
         go_roundg k2
         case measure => have := HK1.out; have := HK2.out; omega
         case rel => exact ⟨(x3_2), (wrap64 (x10_1 + 1)), (by first | rfl | (simp; done) | (simp [*]; done)), (by first | rfl | (simp; done) | (simp [*]; done)), H', ⟨by have := HK1.out; have := HK2.out; omega⟩, by repeat (first | exact Drawn0.refl _ | apply Drawn0.step)⟩
     · rw [if_neg c4] at H; exact absurd H (by simp)
    · rw [if_neg c3] at H; exact absurd H (by simp)
   ·
    rw [if_neg c2] at H
    have c2b0 : decide (x10_1 < (l0.length : Int)) = false := decide_eq_false c2
    clear c2
    obtain rfl := Option.some.inj H
    go_wp2
    go_ret
    exact ⟨by first | rfl | (simp; done) | (simp [*]; done), by repeat (first | exact Drawn0.refl _ | apply Drawn0.step)⟩

end Go.Proofs.Ytfkihcdonddcoaa.PC
