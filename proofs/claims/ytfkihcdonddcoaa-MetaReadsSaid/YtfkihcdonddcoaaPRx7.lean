-- Written by wip/printx.py, a program of this work over the kit's print, for this claim.
import Derived.Test.YtfkihcdonddcoaaPRx0
import Derived.Test.YtfkihcdonddcoaaPRx5
namespace Go.Proofs.Ytfkihcdonddcoaa.PR
open Go.RowKit Go.Proofs.YtfkihcdonddcoaaW.PrintWords Go.Proofs.YtfkihcdonddcoaaW.PrintLast Go.Proofs.YtfkihcdonddcoaaW.PrintMore
attribute [local go_sem] max2_int min2_int max_two min_two max_three min_three max_four min_four   -- for this text's walks alone
attribute [local go_sem] Ext.pick_u8 Ext.pick_u32 Ext.pick_u64
set_option linter.unusedVariables false
set_option linter.unusedSimpArgs false



/-! ### octets_Get: function 35 -/
mutual
def octets_Get.j0 : Nat → List Int → Int → Int → Bool → Option (Int × Int)
 | 0, _, _, _, _ => none
 | k + 1, x0, x1, x2, x16 => if x16 = true then (some (0, 1)) else (if x1 < 0 then (octets_Get.j1 k x0 x1 x2 true) else (if x1 > (x0.length : Int) then (octets_Get.j1 k x0 x1 x2 true) else (octets_Get.j1 k x0 x1 x2 (decide (x2 > (wrap64 ((x0.length : Int) - x1)))))))
def octets_Get.j1 : Nat → List Int → Int → Int → Bool → Option (Int × Int)
 | 0, _, _, _, _ => none
 | k + 1, x0, x1, x2, x32 => if x32 = true then (some (0, 3)) else (if 0 ≤ x1 then (if x1 ≤ (wrap64 (x1 + x2)) then (if (wrap64 (x1 + x2)) ≤ (x0.length : Int) then ((some ((x0.take ((wrap64 (x1 + x2)) : Int).toNat).drop (x1 : Int).toNat : List Int)).bind fun y125 => (octets_Get.l0 k 0 y125 (y125.length : Int) 0)) else (none)) else (none)) else (none))
def octets_Get.l0 : Nat → Int → List Int → Int → Int → Option (Int × Int)
 | 0, _, _, _, _ => none
 | k + 1, x8, x38, x39, x40 => if x40 < x39 then (if 0 ≤ x40 then (if x40 < (x38.length : Int) then (octets_Get.l0 k (Go.bits .or .u64 (IntKind.u64.wrap (x8 * 256)) (IntKind.u64.wrap (rd x38 x40))) x38 x39 (wrap64 (x40 + 1))) else (none)) else (none)) else (some (x8, 0))
end
def octets_Get.f (k : Nat) (l0 : List Int) (a1 : Int) (a2 : Int) : Option (Int × Int) := if a2 < 1 then (octets_Get.j0 k l0 a1 a2 true) else (octets_Get.j0 k l0 a1 a2 (decide (a2 > 8)))
theorem octets_Get.mono_l : ∀ k, (∀ y0 y1 y2 y3, LeO (octets_Get.j0 k y0 y1 y2 y3) (octets_Get.j0 (k + 1) y0 y1 y2 y3)) ∧ (∀ y0 y1 y2 y3, LeO (octets_Get.j1 k y0 y1 y2 y3) (octets_Get.j1 (k + 1) y0 y1 y2 y3)) ∧ (∀ y0 y1 y2 y3, LeO (octets_Get.l0 k y0 y1 y2 y3) (octets_Get.l0 (k + 1) y0 y1 y2 y3))
 | 0 => ⟨fun _ _ _ _ r h => by simp [octets_Get.j0] at h, fun _ _ _ _ r h => by simp [octets_Get.j1] at h, fun _ _ _ _ r h => by simp [octets_Get.l0] at h⟩
 | k + 1 => by
  obtain ⟨ih0, ih1, ih2⟩ := octets_Get.mono_l k
  refine ⟨?_, ?_, ?_⟩
  ·
   intro y0 y1 y2 y3
   unfold octets_Get.j0
   repeat' first
   | (with_reducible exact ih0 _ _ _ _)
   | (with_reducible exact ih1 _ _ _ _)
   | (with_reducible exact ih2 _ _ _ _)
   | (with_reducible exact LeO.refl _)
   | (with_reducible exact LeO.none _)
   | (with_reducible refine LeO.ite ?_ ?_)
   | (with_reducible refine LeO.bind ?_ (fun _ => ?_))
   | exact ih0 _ _ _ _
   | exact ih1 _ _ _ _
   | exact ih2 _ _ _ _
   | exact LeO.none _
   | refine LeO.ite ?_ ?_
   | refine LeO.bind ?_ (fun _ => ?_)
  ·
   intro y0 y1 y2 y3
   unfold octets_Get.j1
   repeat' first
   | (with_reducible exact ih0 _ _ _ _)
   | (with_reducible exact ih1 _ _ _ _)
   | (with_reducible exact ih2 _ _ _ _)
   | (with_reducible exact LeO.refl _)
   | (with_reducible exact LeO.none _)
   | (with_reducible refine LeO.ite ?_ ?_)
   | (with_reducible refine LeO.bind ?_ (fun _ => ?_))
   | exact ih0 _ _ _ _
   | exact ih1 _ _ _ _
   | exact ih2 _ _ _ _
   | exact LeO.none _
   | refine LeO.ite ?_ ?_
   | refine LeO.bind ?_ (fun _ => ?_)
  ·
   intro y0 y1 y2 y3
   unfold octets_Get.l0
   repeat' first
   | (with_reducible exact ih0 _ _ _ _)
   | (with_reducible exact ih1 _ _ _ _)
   | (with_reducible exact ih2 _ _ _ _)
   | (with_reducible exact LeO.refl _)
   | (with_reducible exact LeO.none _)
   | (with_reducible refine LeO.ite ?_ ?_)
   | (with_reducible refine LeO.bind ?_ (fun _ => ?_))
   | exact ih0 _ _ _ _
   | exact ih1 _ _ _ _
   | exact ih2 _ _ _ _
   | exact LeO.none _
   | refine LeO.ite ?_ ?_
   | refine LeO.bind ?_ (fun _ => ?_)
theorem octets_Get.mono : ∀ a0 a1 a2 k, LeO (octets_Get.f k a0 a1 a2) (octets_Get.f (k + 1) a0 a1 a2) := by
 intro a0 a1 a2 k
 obtain ⟨ih0, ih1, ih2⟩ := octets_Get.mono_l k
 unfold octets_Get.f
 repeat' first
   | (with_reducible exact ih0 _ _ _ _)
   | (with_reducible exact ih1 _ _ _ _)
   | (with_reducible exact ih2 _ _ _ _)
   | (with_reducible exact LeO.refl _)
   | (with_reducible exact LeO.none _)
   | (with_reducible refine LeO.ite ?_ ?_)
   | (with_reducible refine LeO.bind ?_ (fun _ => ?_))
   | exact ih0 _ _ _ _
   | exact ih1 _ _ _ _
   | exact ih2 _ _ _ _
   | exact LeO.none _
   | refine LeO.ite ?_ ?_
   | refine LeO.bind ?_ (fun _ => ?_)
set_option maxHeartbeats 8000000 in
set_option maxRecDepth 100000 in
theorem octets_Get.calls (k : Nat) (A0 : Option Addr) (c0 : Nat) (l0 : List Int) (a1 : Int) (a2 : Int) (r1 : Int) (r2 : Int) (w : World) (hr0 : Kd.C (Kd.int .u8) w A0 l0.length l0) (hc0 : l0.length ≤ c0) (h : octets_Get.f k l0 a1 a2 = some (r1, r2)) :
  Calls Try.prog 35 #[.slice A0 l0.length c0, .int .i64 a1, .int .i64 a2] w fun e w' => e = .returned (.tuple #[.int .u64 r1, .int .i64 r2]) ∧ Drawn0 w w' := by
 have HR0 := Aside0.mk hr0
 have HC0 := Aside0.mk hc0
 clear hr0 hc0
 have H : (if a2 < 1 then (octets_Get.j0 k l0 a1 a2 true) else (octets_Get.j0 k l0 a1 a2 (decide (a2 > 8)))) = some (r1, r2) := h
 clear h
 have HC4 := Aside0.mk H
 clear H
 go_enter Try.func35, Try.ntmps35
 go_upto_region 1 with (fail)
 go_cut [16] (fun v16 wc => ∃ (kq : Nat) (x16_3 : Bool), v16 = .bool x16_3 ∧ Aside0 (octets_Get.j0 kq l0 a1 a2 x16_3 = some (r1, r2)) ∧ Aside0 (kq ≤ k) ∧ Drawn0 w wc)
 case first =>
  have H := HC4.out
  clear HC4
  by_cases c5 : a2 < 1
  ·
   rw [if_pos c5] at H
   have c5b0 : decide (a2 < 1) = true := decide_eq_true c5
   clear c5
   (first | rw [c5b0] | (simp only [i64_w, i32_w]; rw [c5b0]) | skip)
   have H' := Aside0.mk H
   clear H
   go_wp2
   go_meet
   case rel => exact ⟨_, (true), (by first | rfl | (simp; done) | (simp [*]; done)), H', ⟨by first | omega | exact Nat.le_refl _⟩, by repeat (first | exact Drawn0.refl _ | apply Drawn0.step)⟩
  ·
   rw [if_neg c5] at H
   have c5b0 : decide (a2 < 1) = false := decide_eq_false c5
   clear c5
   (first | rw [c5b0] | (simp only [i64_w, i32_w]; rw [c5b0]) | skip)
   have H' := Aside0.mk H
   clear H
   go_wp2
   go_meet
   case rel => exact ⟨_, (decide (a2 > 8)), (by first | rfl | (simp; done) | (simp [*]; done)), H', ⟨by first | omega | exact Nat.le_refl _⟩, by repeat (first | exact Drawn0.refl _ | apply Drawn0.step)⟩
 case rest =>
  clear HC4
  try clear p2
  try clear c3
  try clear c5
  try clear c5b0
  obtain ⟨kq, x16_3, rfl, HA, HJ3, ⟨mc3, rfl⟩⟩ := hcut
  cases kq with
  | zero => exact absurd HA.out (by simp [octets_Get.j0])
  | succ kj3 =>
   have H := HA.out
   clear HA
   simp only [octets_Get.j0] at H
   by_cases c6 : x16_3 = true
   ·
    subst c6
    have H1 : (some (0, 1)) = some (r1, r2) := by rw [if_pos rfl] at H; exact H
    clear H
    have H := H1
    clear H1
    simp only [Option.some.injEq, Prod.mk.injEq] at H
    obtain ⟨rfl, rfl⟩ := H
    go_wp2
    go_ret2
    exact ⟨by first | rfl | (simp; done) | (simp [*]; done), by repeat (first | exact Drawn0.refl _ | apply Drawn0.step)⟩
   ·
    replace c6 := Bool.eq_false_iff.mpr c6
    subst c6
    have H1 : (if a1 < 0 then (octets_Get.j1 kj3 l0 a1 a2 true) else (if a1 > (l0.length : Int) then (octets_Get.j1 kj3 l0 a1 a2 true) else (octets_Get.j1 kj3 l0 a1 a2 (decide (a2 > (wrap64 ((l0.length : Int) - a1))))))) = some (r1, r2) := by rw [if_neg (show ¬ (false = true) by decide)] at H; exact H
    clear H
    have H := H1
    clear H1
    have HC7 := Aside0.mk H
    clear H
    go_upto_region 3 with (fail)
    go_cut [32] (fun v32 wc => ∃ (kq : Nat) (x32_6 : Bool), v32 = .bool x32_6 ∧ Aside0 (octets_Get.j1 kq l0 a1 a2 x32_6 = some (r1, r2)) ∧ Aside0 (kq ≤ kj3) ∧ Drawn0 w wc)
    case first =>
     have H := HC7.out
     clear HC7
     by_cases c8 : a1 < 0
     ·
      rw [if_pos c8] at H
      have c8b0 : decide (a1 < 0) = true := decide_eq_true c8
      clear c8
      (first | rw [c8b0] | (simp only [i64_w, i32_w]; rw [c8b0]) | skip)
      have H' := Aside0.mk H
      clear H
      go_wp2
      go_meet
      case rel => exact ⟨_, (true), (by first | rfl | (simp; done) | (simp [*]; done)), H', ⟨by have := HJ3.out; first | omega | exact Nat.le_refl _⟩, by repeat (first | exact Drawn0.refl _ | apply Drawn0.step)⟩
     ·
      rw [if_neg c8] at H
      have c8b0 : decide (a1 < 0) = false := decide_eq_false c8
      clear c8
      (first | rw [c8b0] | (simp only [i64_w, i32_w]; rw [c8b0]) | skip)
      by_cases c9 : a1 > (l0.length : Int)
      ·
       rw [if_pos c9] at H
       have c9b0 : decide ((l0.length : Int) < a1) = true := decide_eq_true c9
       clear c9
       have H' := Aside0.mk H
       clear H
       go_wp2
       go_meet
       case rel => exact ⟨_, (true), (by first | rfl | (simp; done) | (simp [*]; done)), H', ⟨by have := HJ3.out; first | omega | exact Nat.le_refl _⟩, by repeat (first | exact Drawn0.refl _ | apply Drawn0.step)⟩
      ·
       rw [if_neg c9] at H
       have c9b0 : decide ((l0.length : Int) < a1) = false := decide_eq_false c9
       clear c9
       have H' := Aside0.mk H
       clear H
       go_wp2
       go_meet
       case rel => exact ⟨_, (decide (a2 > (wrap64 ((l0.length : Int) - a1)))), (by first | rfl | (simp; done) | (simp [*]; done)), H', ⟨by have := HJ3.out; first | omega | exact Nat.le_refl _⟩, by repeat (first | exact Drawn0.refl _ | apply Drawn0.step)⟩
    case rest =>
     clear HC7
     try clear p2
     try clear c3
     try clear c5
     try clear c5b0
     try clear c6
     try clear p6
     try clear c8
     try clear c8b0
     try clear c9
     try clear c9b0
     try clear p2
     obtain ⟨kq, x32_6, rfl, HA, HJ6, ⟨mc6, rfl⟩⟩ := hcut
     cases kq with
     | zero => exact absurd HA.out (by simp [octets_Get.j1])
     | succ kj6 =>
      have H := HA.out
      clear HA
      simp only [octets_Get.j1] at H
      by_cases c10 : x32_6 = true
      ·
       subst c10
       have H1 : (some (0, 3)) = some (r1, r2) := by rw [if_pos rfl] at H; exact H
       clear H
       have H := H1
       clear H1
       simp only [Option.some.injEq, Prod.mk.injEq] at H
       obtain ⟨rfl, rfl⟩ := H
       go_wp2
       go_ret2
       exact ⟨by first | rfl | (simp; done) | (simp [*]; done), by repeat (first | exact Drawn0.refl _ | apply Drawn0.step)⟩
      ·
       replace c10 := Bool.eq_false_iff.mpr c10
       subst c10
       have H1 : (if 0 ≤ a1 then (if a1 ≤ (wrap64 (a1 + a2)) then (if (wrap64 (a1 + a2)) ≤ (l0.length : Int) then ((some ((l0.take ((wrap64 (a1 + a2)) : Int).toNat).drop (a1 : Int).toNat : List Int)).bind fun y125 => (octets_Get.l0 kj6 0 y125 (y125.length : Int) 0)) else (none)) else (none)) else (none)) = some (r1, r2) := by rw [if_neg (show ¬ (false = true) by decide)] at H; exact H
       clear H
       have H := H1
       clear H1
       by_cases c11 : 0 ≤ a1
       ·
        rw [if_pos c11] at H
        have c11b0 := eq_true c11
        have c11b1 : decide (0 ≤ a1) = true := decide_eq_true c11
        clear c11
        by_cases c12 : a1 ≤ (wrap64 (a1 + a2))
        ·
         rw [if_pos c12] at H
         have c12b0 := eq_true c12
         have c12b1 : decide (a1 ≤ (wrap64 (a1 + a2))) = true := decide_eq_true c12
         by_cases c13 : (wrap64 (a1 + a2)) ≤ (l0.length : Int)
         ·
          rw [if_pos c13] at H
          have c13b0 := eq_true c13
          have c13b1 : decide ((wrap64 (a1 + a2)) ≤ (l0.length : Int)) = true := decide_eq_true c13
          obtain ⟨y125, hy125⟩ : ∃ y_ : List Int, y_ = ((l0.take ((wrap64 (a1 + a2)) : Int).toNat).drop (a1 : Int).toNat) := ⟨_, rfl⟩
          replace H : (octets_Get.l0 kj6 0 y125 (y125.length : Int) 0) = some (r1, r2) := by first | (rw [hy125]; with_reducible exact H) | (have H2_ := (Option.bind_some _ _).symm.trans H; rw [hy125]; with_reducible exact H2_) | (have H2_ := (Option.bind_some _ _).symm.trans H; with_reducible exact H2_) | with_reducible exact H | (rw [hy125]; exact H) | exact H
          have Ny125 := Aside0.mk hy125
          clear hy125
          have H' := Aside0.mk H
          clear H
          have q14 : ((wrap64 (a1 + a2)) : Int) ≤ ((l0.length : Int) : Int) := of_decide_eq_true (by first | (with_reducible assumption) | assumption)
          obtain ⟨i014, hi014, _, hsz14, _⟩ := info_parts info5
          have hroom14 : l0.length ≤ c0 := HC0.out
          have hC14 : Kd.C (Kd.int .u8) _ A0 l0.length l0 := HR0.out
          have ql14 : (a1 : Int) ≤ ((wrap64 (a1 + a2)) : Int) := of_decide_eq_true (by first | (with_reducible assumption) | assumption)
          have q014 : (0 : Int) ≤ (a1 : Int) := of_decide_eq_true (by first | (with_reducible assumption) | assumption)
          have hcut14 := cut_mid (P := Try.prog) 26 5 .i64 .i64 Try.underlying26 hi014 1 hsz14 A0 l0.length c0 a1 (wrap64 (a1 + a2)) q014 ql14 q14 hroom14
          have hr14 := Kd.C_mid (lo := (a1 : Int).toNat) (hi := ((wrap64 (a1 + a2)) : Int).toNat) (c := c0) hC14 (by omega) (by omega) hroom14
          obtain ⟨A14, hA14⟩ : ∃ A1, A1 = (if c0 = (a1 : Int).toNat then A0 else (A0 : Option Addr).map (·.add ((a1 : Int).toNat * 1))) := ⟨_, rfl⟩
          obtain ⟨c14, hc14⟩ : ∃ c1, c1 = c0 - (a1 : Int).toNat := ⟨_, rfl⟩
          have hy14 : y125.length = ((wrap64 (a1 + a2)) : Int).toNat - (a1 : Int).toNat := (by rw [Ny125.out, List.length_drop, List.length_take] <;> omega)
          rw [show ((l0).take ((wrap64 (a1 + a2)) : Int).toNat).drop (a1 : Int).toNat = y125 from Ny125.out.symm] at hr14
          replace hr14 : Kd.C (Kd.int .u8) _ A14 y125.length y125 := (by rw [hA14]; exact hr14)
          rw [← hy14, ← hA14, ← hc14] at hcut14
          have HR128 := Aside0.mk hr14
          have HC128 := Ext.a (show y125.length ≤ c14 from by rw [hy14, hc14]; exact Nat.sub_le_sub_right (Nat.le_trans (by omega) hroom14) _)
          clear hr14 hC14 hroom14 hi014 hsz14 hc14
          have KY14 := Aside0.mk hy14
          have KA14 := Aside0.mk hA14
          clear hy14 hA14
          replace q14 := eq_true q14
          go_wp2
          go_loopg [8, 40] kj6 (fun kq v8 v40 w' => ∃ (x8_3 : Int) (x40_3 : Int), v8 = .int .u64 x8_3 ∧ v40 = .int .i64 x40_3 ∧ Aside0 (octets_Get.l0 kq x8_3 y125 (y125.length : Int) x40_3 = some (r1, r2)) ∧ Aside0 (kq ≤ kj6) ∧ Drawn0 w w')
          case atStart => exact ⟨(0), (0), (by first | rfl | (simp; done) | (simp [*]; done)), (by first | rfl | (simp; done) | (simp [*]; done)), H', ⟨Nat.le_refl _⟩, by repeat (first | exact Drawn0.refl _ | apply Drawn0.step)⟩
          case round =>
           clear H'
           try clear c1
           try clear q1
           try clear p2
           try clear c3
           try clear c5
           try clear c5b0
           try clear c6
           try clear p6
           try clear c8
           try clear c8b0
           try clear c9
           try clear c9b0
           try clear c10
           try clear c11
           try clear c11b0
           try clear c11b1
           try clear c12
           try clear c12b0
           try clear c12b1
           try clear c13
           try clear c13b0
           try clear c13b1
           try clear c14
           try clear q14
           try clear p2
           try clear p6
           try clear q014
           try clear q14
           obtain ⟨x8_3, x40_3, rfl, rfl, HA, HK3, ⟨m3, rfl⟩⟩ := hrel
           cases gk with
           | zero => exact absurd HA.out (by simp [octets_Get.l0])
           | succ k3 =>
            have H := HA.out
            clear HA
            simp only [octets_Get.l0] at H
            by_cases c15 : x40_3 < (y125.length : Int)
            ·
             rw [if_pos c15] at H
             have c15b0 : decide (x40_3 < (y125.length : Int)) = true := decide_eq_true c15
             clear c15
             by_cases c16 : 0 ≤ x40_3
             ·
              rw [if_pos c16] at H
              have c16b0 : decide (0 ≤ x40_3) = true := decide_eq_true c16
              clear c16
              by_cases c17 : x40_3 < (y125.length : Int)
              ·
               rw [if_pos c17] at H
               have c17b0 : decide (x40_3 < (y125.length : Int)) = true := decide_eq_true c17
               clear c17
               have H' := Aside0.mk H
               clear H
               have p129 : 0 ≤ (x40_3 : Int) := of_decide_eq_true (by first | (with_reducible assumption) | assumption)
               have q129 : x40_3 < (y125.length : Int) := of_decide_eq_true (by first | (with_reducible assumption) | assumption)
               obtain ⟨ad129, e129, hx129_0⟩ := Kd.at_int HR128.out x40_3 p129 q129
               cases e129
               replace p129 := eq_true p129
               replace q129 := eq_true q129
               go_wp2
               go_roundg k3
               case measure => have := HJ3.out; have := HJ6.out; have := HK3.out; omega
               case rel => exact ⟨(Go.bits .or .u64 (IntKind.u64.wrap (x8_3 * 256)) (IntKind.u64.wrap (rd y125 x40_3))), (wrap64 (x40_3 + 1)), (by first | rfl | (simp; done) | (simp [*]; done)), (by first | rfl | (simp; done) | (simp [*]; done)), H', ⟨by have := HJ3.out; have := HJ6.out; have := HK3.out; omega⟩, by repeat (first | exact Drawn0.refl _ | apply Drawn0.step)⟩
              · rw [if_neg c17] at H; exact absurd H (by simp)
             · rw [if_neg c16] at H; exact absurd H (by simp)
            ·
             rw [if_neg c15] at H
             have c15b0 : decide (x40_3 < (y125.length : Int)) = false := decide_eq_false c15
             clear c15
             simp only [Option.some.injEq, Prod.mk.injEq] at H
             obtain ⟨rfl, rfl⟩ := H
             go_wp2
             go_ret2
             exact ⟨by first | rfl | (simp; done) | (simp [*]; done), by repeat (first | exact Drawn0.refl _ | apply Drawn0.step)⟩
         · rw [if_neg c13] at H; exact absurd H (by simp)
        · rw [if_neg c12] at H; exact absurd H (by simp)
       · rw [if_neg c11] at H; exact absurd H (by simp)


@[reducible] def ok27_0 (w0 : World)  : Nat → Prop := fun k_ => (w0.heap.size ≤ k_)
@[reducible] def ok27_1 (p0 : Nat → Prop) (w1 : World)  : Nat → Prop := fun k_ => (p0 k_ ∨ w1.heap.size ≤ k_)
@[reducible] def ok27_2 (p0 : Nat → Prop) (w1 : World) (v0 : Value) : Nat → Prop := fun k_ => (p0 k_ ∨ w1.heap.size ≤ k_) ∧ some k_ ≠ v0.ownBlock
/-! ### sum_Open: function 27 -/
def sum_Open.f (k : Nat) (l0 : List Int) : Option (List Int × Int) := (octets_Get.f k l0 0 4).bind fun bt130 => (if bt130.2 = 0 then (if 4 ≤ (l0.length : Int) then ((some (l0.drop 4 : List Int)).bind fun y132 => ((sum_Sum.f k (([y132] : List (List Int)))).bind fun t140 => (if ((bt130.1) % 4294967296) = t140 then ((some (([] : List Int) : List Int)).bind fun y141 => (if y141.length + y132.length < 140737488355328 then (some ((y141 ++ y132), 0)) else (none))) else (some (([] : List Int), 6))))) else (none)) else (some (([] : List Int), bt130.2)))
theorem sum_Open.mono : ∀ a0 k, LeO (sum_Open.f k a0) (sum_Open.f (k + 1) a0) := by
 intro a0 k
 unfold sum_Open.f
 repeat' first
   | (with_reducible exact octets_Get.mono _ _ _ _)
   | (with_reducible exact sum_Sum.mono _ _)
   | (with_reducible exact LeO.refl _)
   | (with_reducible exact LeO.none _)
   | (with_reducible refine LeO.ite ?_ ?_)
   | (with_reducible refine LeO.bind ?_ (fun _ => ?_))
   | exact octets_Get.mono _ _ _ _
   | exact sum_Sum.mono _ _
   | exact LeO.none _
   | refine LeO.ite ?_ ?_
   | refine LeO.bind ?_ (fun _ => ?_)
set_option maxHeartbeats 8000000 in
set_option maxRecDepth 100000 in
theorem sum_Open.calls (k : Nat) (P0_ : Nat → Prop) (A0 : Option Addr) (c0 : Nat) (l0 : List Int) (r1 : List Int) (r2 : Int) (w : World) (hs0 : Kd.V (Kd.int .u8) 5 w w.heap.size (fun k_ => P0_ k_) (.slice A0 l0.length c0) l0) (h : sum_Open.f k l0 = some (r1, r2)) :
  Calls Try.prog 27 #[.slice A0 l0.length c0] w fun e w' => ∃ v0_ : Value, e = .returned (.tuple #[v0_, .int .i64 r2]) ∧ Kd.R (Kd.int .u8) 5 w' w.heap.size (ok27_0 w) v0_ r1 ∧ Below w.heap.size w w' := by
 have HO0 := Ext.a (show Kd.V (Kd.int .u8) 5 w w.heap.size (ok27_1 P0_ w) (.slice A0 l0.length c0) l0 from Kd.V_mono hs0 (fun k_ hk => .inl hk))
 have HB := Ext.a (Below.refl w.heap.size w)
 have H : ((octets_Get.f k l0 0 4).bind fun bt130 => (if bt130.2 = 0 then (if 4 ≤ (l0.length : Int) then ((some (l0.drop 4 : List Int)).bind fun y132 => ((sum_Sum.f k (([y132] : List (List Int)))).bind fun t140 => (if ((bt130.1) % 4294967296) = t140 then ((some (([] : List Int) : List Int)).bind fun y141 => (if y141.length + y132.length < 140737488355328 then (some ((y141 ++ y132), 0)) else (none))) else (some (([] : List Int), 6))))) else (none)) else (some (([] : List Int), bt130.2)))) = some (r1, r2) := h
 clear h
 replace H := Option.bind_eq_some_iff.mp H
 obtain ⟨⟨t130, t131⟩, A20, H⟩ := H
 replace H : (if t131 = 0 then (if 4 ≤ (l0.length : Int) then ((some (l0.drop 4 : List Int)).bind fun y132 => ((sum_Sum.f k (([y132] : List (List Int)))).bind fun t140 => (if ((t130) % 4294967296) = t140 then ((some (([] : List Int) : List Int)).bind fun y141 => (if y141.length + y132.length < 140737488355328 then (some ((y141 ++ y132), 0)) else (none))) else (some (([] : List Int), 6))))) else (none)) else (some (([] : List Int), t131))) = some (r1, r2) := H
 have A2 := Aside0.mk A20
 clear A20
 by_cases c3 : t131 = 0
 ·
  rw [if_pos c3] at H
  have c3b0 : (t131 == 0) = true := beq_iff_eq.mpr c3
  have c3b1 : (t131 != 0) = false := bne_eq_false_iff_eq.mpr c3
  clear c3
  by_cases c4 : 4 ≤ (l0.length : Int)
  ·
   rw [if_pos c4] at H
   have c4b0 := eq_true c4
   have c4b1 : decide (4 ≤ (l0.length : Int)) = true := decide_eq_true c4
   clear c4
   obtain ⟨y132, hy132⟩ : ∃ y_ : List Int, y_ = (l0.drop 4) := ⟨_, rfl⟩
   replace H : ((sum_Sum.f k (([y132] : List (List Int)))).bind fun t140 => (if ((t130) % 4294967296) = t140 then ((some (([] : List Int) : List Int)).bind fun y141 => (if y141.length + y132.length < 140737488355328 then (some ((y141 ++ y132), 0)) else (none))) else (some (([] : List Int), 6)))) = some (r1, r2) := by first | (rw [hy132]; with_reducible exact H) | (have H2_ := (Option.bind_some _ _).symm.trans H; rw [hy132]; with_reducible exact H2_) | (have H2_ := (Option.bind_some _ _).symm.trans H; with_reducible exact H2_) | with_reducible exact H | (rw [hy132]; exact H) | exact H
   have Ny132 := Aside0.mk hy132
   clear hy132
   obtain ⟨y137, hy137⟩ : ∃ y_ : List (List Int), y_ = (([y132] : List (List Int))) := ⟨_, rfl⟩
   replace H : ((sum_Sum.f k y137).bind fun t140 => (if ((t130) % 4294967296) = t140 then ((some (([] : List Int) : List Int)).bind fun y141 => (if y141.length + y132.length < 140737488355328 then (some ((y141 ++ y132), 0)) else (none))) else (some (([] : List Int), 6)))) = some (r1, r2) := by first | (rw [hy137]; with_reducible exact H) | (have H2_ := (Option.bind_some _ _).symm.trans H; rw [hy137]; with_reducible exact H2_) | (have H2_ := (Option.bind_some _ _).symm.trans H; with_reducible exact H2_) | with_reducible exact H | (rw [hy137]; exact H) | exact H
   have Ny137 := Aside0.mk hy137
   clear hy137
   replace H := Option.bind_eq_some_iff.mp H
   obtain ⟨t140, A50, H⟩ := H
   replace H : (if ((t130) % 4294967296) = t140 then ((some (([] : List Int) : List Int)).bind fun y141 => (if y141.length + y132.length < 140737488355328 then (some ((y141 ++ y132), 0)) else (none))) else (some (([] : List Int), 6))) = some (r1, r2) := H
   have A5 := Aside0.mk A50
   clear A50
   by_cases c6 : ((t130) % 4294967296) = t140
   ·
    rw [if_pos c6] at H
    have c6b0 : (((t130) % 4294967296) == t140) = true := beq_iff_eq.mpr c6
    have c6b1 : (((t130) % 4294967296) != t140) = false := bne_eq_false_iff_eq.mpr c6
    clear c6
    obtain ⟨y141, hy141⟩ : ∃ y_ : List Int, y_ = (([] : List Int)) := ⟨_, rfl⟩
    replace H : (if y141.length + y132.length < 140737488355328 then (some ((y141 ++ y132), 0)) else (none)) = some (r1, r2) := by first | (rw [hy141]; with_reducible exact H) | (have H2_ := (Option.bind_some _ _).symm.trans H; rw [hy141]; with_reducible exact H2_) | (have H2_ := (Option.bind_some _ _).symm.trans H; with_reducible exact H2_) | with_reducible exact H | (rw [hy141]; exact H) | exact H
    have Ny141 := Aside0.mk hy141
    clear hy141
    by_cases c7 : y141.length + y132.length < 140737488355328
    ·
     rw [if_pos c7] at H
     have LMc7 := Aside0.mk c7
     clear c7
     obtain ⟨y149, hy149⟩ : ∃ y_ : List Int, y_ = (y141 ++ y132) := ⟨_, rfl⟩
     replace H : (some (y149, 0)) = some (r1, r2) := by first | (rw [hy149]; with_reducible exact H) | (have H2_ := (Option.bind_some _ _).symm.trans H; rw [hy149]; with_reducible exact H2_) | (have H2_ := (Option.bind_some _ _).symm.trans H; with_reducible exact H2_) | with_reducible exact H | (rw [hy149]; exact H) | exact H
     have Ny149 := Aside0.mk hy149
     clear hy149
     simp only [Option.some.injEq, Prod.mk.injEq] at H
     obtain ⟨rfl, rfl⟩ := H
     go_enter Try.func27, Try.ntmps27
     go_wp2_with (first | ((with_reducible refine gate_callee (f := 35) rfl ?_); refine goesL_ (some 8) rfl rfl Try.func35 (by kernel_rfl) rfl #[.slice A0 l0.length c0, .int .i64 0, .int .i64 4] rfl (by (try simp only [List.map_toArray, List.map_cons, List.map_nil]); first | done | rfl | (simp only [List.length_drop, List.length_take]; rfl)) ?_; (with_reducible refine (octets_Get.calls k _ _ l0 0 4 t130 t131 _ ?side1 ?side2 A2.out).mono ?_); (case side1 => exact Ext.nC (Kd.V_reads' HO0.out).2.2); (case side2 => exact (Kd.V_reads' HO0.out).2.1); rintro e w' ⟨rfl, ⟨nd, rfl⟩⟩; refine ⟨_, rfl, ?_⟩; have q8 : (4 : Int) ≤ ((l0.length : Int) : Int) := of_decide_eq_true (by first | (with_reducible assumption) | assumption); obtain ⟨i08, hi08, _, hsz8, _⟩ := info_parts info5; have hroom8 : l0.length ≤ c0 := (Kd.V_reads' HO0.out).2.1; have hC8 : Kd.F (Kd.int .u8) _ _ A0 l0.length l0 := (Kd.V_at (base := w.heap.size) HO0.out).2.2; have hcut8 := cut_from (P := Try.prog) 26 5 .i64 Try.underlying26 hi08 1 hsz8 A0 l0.length c0 4 (by omega) q8; have hr8 := Kd.F_cut (m := (4 : Int).toNat) (c := c0) hC8 (by omega) hroom8; obtain ⟨A8, hA8⟩ : ∃ A1, A1 = (if c0 = (4 : Int).toNat then A0 else (A0 : Option Addr).map (·.add ((4 : Int).toNat * 1))) := ⟨_, rfl⟩; obtain ⟨c8, hc8⟩ : ∃ c1, c1 = c0 - (4 : Int).toNat := ⟨_, rfl⟩; have hy8 : y132.length = l0.length - (4 : Int).toNat := (by rw [Ny132.out, List.length_drop] <;> omega); rw [show (l0).drop (4 : Int).toNat = y132 from Ny132.out.symm] at hr8; replace hr8 : Kd.F (Kd.int .u8) _ _ A8 y132.length y132 := (by rw [hA8]; exact hr8); rw [← hy8, ← hA8, ← hc8] at hcut8; have HO136 := Ext.a (show Kd.V (Kd.int .u8) 5 _ w.heap.size _ (.slice A8 y132.length c8) y132 from Kd.V_mk (by rw [hy8, hc8]; exact Nat.sub_le_sub_right hroom8 _) hr8); have HC136 := Ext.a (show y132.length ≤ c8 from by rw [hy8, hc8]; exact Nat.sub_le_sub_right hroom8 _); clear hr8 hC8 hroom8 hi08 hsz8 hc8; have KY8 := Aside0.mk hy8; have KA8 := Aside0.mk hA8; clear hy8 hA8; replace q8 := eq_true q8) | ((with_reducible refine gate_dst (N := 20) rfl ?_); refine Kd.N_lit (Kd.slice 5 (Kd.int .u8)) _ 26 ?hg (N' := 20) ?hd (xs := ([y132] : List (List Int))) (inner := [.slice A8 y132.length c8]) (ok := (ok27_1 P0_ w)) (okp := (ok27_1 P0_ w)) ?hr ?hp (fun _ hk => hk) ((show ∀ k_, w.heap.size ≤ k_ → (ok27_1 P0_ w) k_ from fun k_ hk => (.inr (Nat.le_trans (below_size (Ext.nB HB.out)) hk))) _ (Nat.le_refl _)) (Below.refl _ _) (Nat.le_refl _) (by simp) ?_; (case hd => rfl); (case hg => rfl); (case hr => first | (go_simp; done) | (go_simp; rfl)); (case hp => exact (Reps.one (show Kd.FK (Kd.slice 5 (Kd.int .u8)) _ _ y132 [.slice A8 y132.length c8] from (Kd.FK_slice_mk (Kd.V_reads' (Kd.V_mono (e := 0) (base := 0) (ok' := (ok27_1 P0_ w)) (HO136.out) (fun k_ hk => hk))).2.1 (Kd.V_F (e := 0) (base := 0) (Kd.V_mono (e := 0) (base := 0) (ok' := (ok27_1 P0_ w)) (HO136.out) (fun k_ hk => hk))))) (Reps.none _ _))); intro v138 w9 ho10 hb hg_ hnew_; clear hg_ hnew_; (first | rw [← Ny137.out] at ho10 | (simp only [Int.reduceToNat] at ho10; rw [← Ny137.out] at ho10)); have n0_ := Ext.a (Kd.V_elder' (Ext.nV HO0.out) (Kd.N_base ho10) hb); have n1_ := Ext.a (Kd.V_elder' (Ext.nV HO136.out) (Kd.N_base ho10) hb); have n2_ := Ext.a (Kd.N_lower ho10 (below_size (Ext.nB HB.out))); have n3_ := Ext.a (below_step (Ext.nB HB.out) hb); clear HO0 HO136 HB; have HO0 := n0_; have HO136 := n1_; have HO139 := n2_; have HB := n3_; clear n0_ n1_ n2_ n3_; clear hb ho10; obtain ⟨Ao11, co11, eo11⟩ := Kd.N_slice HO139.out; subst eo11) | ((with_reducible refine gate_callee (f := 34) rfl ?_); refine goesL_ (some 21) rfl rfl Try.func34 (by kernel_rfl) rfl #[.slice Ao11 y137.length co11] rfl (by (try simp only [List.map_toArray, List.map_cons, List.map_nil]); first | done | rfl | (simp only [List.length_drop, List.length_take]; rfl)) ?_; (with_reducible refine (sum_Sum.calls k _ _ y137 t140 _ ?side1 ?side2 A5.out).mono ?_); (case side1 => exact Ext.nC (Kd.N_reads' HO139.out).2.2); (case side2 => exact (Kd.N_reads' HO139.out).2.1); rintro e w' ⟨rfl, ⟨nd, rfl⟩⟩; refine ⟨_, rfl, ?_⟩) | ((with_reducible refine gate_dst (N := 23) rfl ?_); refine Kd.R_lit (Kd.int .u8) _ 5 ?hg (N := 23) ?hd (xs := ([] : List Int)) (inner := []) (ok := fun _ => True) (okp := fun _ => True) ?hr ?hp (fun _ hk => hk) trivial (Below.refl _ _) (Nat.le_refl _) (by simp) ?_; (case hd => rfl); (case hg => rfl); (case hr => first | (go_simp; done) | (go_simp; rfl)); (case hp => exact (Reps.none _ _)); intro v142 w12 ho13 hb hg_ hnew_; clear hg_ hnew_; (first | rw [← Ny141.out] at ho13 | (simp only [Int.reduceToNat] at ho13; rw [← Ny141.out] at ho13)); have n0_ := Ext.a (Kd.V_elder' (Ext.nV HO0.out) (Kd.R_base ho13) hb); have n1_ := Ext.a (Kd.V_elder' (Ext.nV HO136.out) (Kd.R_base ho13) hb); have n2_ := Ext.a (Kd.N_elder' (Ext.nN HO139.out) (Kd.R_base ho13) hb); have n3_ := Ext.a (Kd.R_lower (Kd.R_newM (M := fun k_ => (w.heap.size ≤ k_)) ho13 (below_size (Ext.nB HB.out)) (fun k_ h_ => h_)) (below_size (Ext.nB HB.out))); have n4_ := Ext.a (below_step (Ext.nB HB.out) hb); clear HO0 HO136 HO139 HB; have HO0 := n0_; have HO136 := n1_; have HO139 := n2_; have HO143 := n3_; have HB := n4_; clear n0_ n1_ n2_ n3_ n4_; clear hb ho13) | ((with_reducible refine gate_builtin (b := .append) (xs := #[.tmp 23, .tmp 25]) rfl ?_); at_builtin; refine Kd.R_append_rows (Kd.int .u8) (w0 := w) w.heap.size rfl (.tmp 23) (.tmp 25) 26 5 (.int .u8 0) 1 rfl Try.underlying26 info5 rfl (by decide) (by omega) v142 y141 y132 _ _ _ (ok27_0 w) (fun _ => False) rfl rfl ?aO ?aR (fun _ _ h => h) (fun _ h => h.elim) ?aF ?aB ?aS ?aL ?_; (case aR => exact Ext.nC (Kd.V_reads' HO136.out).2.2); (case aB => exact (Ext.nB HB.out)); (case aF => exact (fun k_ hk => (Nat.le_trans (below_size (Ext.nB HB.out)) hk))); (case aO => exact (Ext.nR (Kd.R_mono HO143.out (fun _ hk => hk.1)))); (case aS => exact (below_size (Ext.nB HB.out))); (case aL => have := LMc7.out; omega); intro v150 w14 ho hb hg hat; rw [← Ny149.out] at ho; have n0_ := Ext.a (Kd.V_afterv (ok := (ok27_2 P0_ w (.slice Ao11 y137.length co11))) (Ext.nV HO0.out) hg hat); have n1_ := Ext.a (Kd.V_afterv (ok := (ok27_2 P0_ w (.slice Ao11 y137.length co11))) (Ext.nV HO136.out) hg hat); have n2_ := Ext.a (Kd.N_afterv (ok := (ok27_1 P0_ w)) (Ext.nN HO139.out) hg hat); have n3_ := Ext.a (hb); have n4_ := Ext.a (ho); clear HO0 HO136 HO139 HB HO143; have HO0 := n0_; have HO136 := n1_; have HO139 := n2_; have HB := n3_; have HO151 := n4_; clear n0_ n1_ n2_ n3_ n4_; clear ho hb hg hat))
     go_ret2
     exact ⟨_, by first | rfl | (simp [errW_none, errW_some] <;> rfl) | (simp [*, errW_none, errW_some] <;> rfl), by (with_reducible repeat (first | apply Kd.R_alloc | apply Kd.R_drewN | apply Kd.R_drew)); exact HO151.out, by repeat (first | (with_reducible first | exact HB.out | apply Ext.ba | apply Ext.bn | apply Ext.bd) | exact HB.out | exact .refl _ _)⟩
    · rw [if_neg c7] at H; exact absurd H (by simp)
   ·
    rw [if_neg c6] at H
    have c6b0 : (((t130) % 4294967296) == t140) = false := beq_eq_false_iff_ne.mpr c6
    have c6b1 : (((t130) % 4294967296) != t140) = true := bne_iff_ne.mpr c6
    simp only [Option.some.injEq, Prod.mk.injEq] at H
    obtain ⟨rfl, rfl⟩ := H
    go_enter Try.func27, Try.ntmps27
    go_wp2_with (first | ((with_reducible refine gate_callee (f := 35) rfl ?_); refine goesL_ (some 8) rfl rfl Try.func35 (by kernel_rfl) rfl #[.slice A0 l0.length c0, .int .i64 0, .int .i64 4] rfl (by (try simp only [List.map_toArray, List.map_cons, List.map_nil]); first | done | rfl | (simp only [List.length_drop, List.length_take]; rfl)) ?_; (with_reducible refine (octets_Get.calls k _ _ l0 0 4 t130 t131 _ ?side1 ?side2 A2.out).mono ?_); (case side1 => exact Ext.nC (Kd.V_reads' HO0.out).2.2); (case side2 => exact (Kd.V_reads' HO0.out).2.1); rintro e w' ⟨rfl, ⟨nd, rfl⟩⟩; refine ⟨_, rfl, ?_⟩; have q15 : (4 : Int) ≤ ((l0.length : Int) : Int) := of_decide_eq_true (by first | (with_reducible assumption) | assumption); obtain ⟨i015, hi015, _, hsz15, _⟩ := info_parts info5; have hroom15 : l0.length ≤ c0 := (Kd.V_reads' HO0.out).2.1; have hC15 : Kd.F (Kd.int .u8) _ _ A0 l0.length l0 := (Kd.V_at (base := w.heap.size) HO0.out).2.2; have hcut15 := cut_from (P := Try.prog) 26 5 .i64 Try.underlying26 hi015 1 hsz15 A0 l0.length c0 4 (by omega) q15; have hr15 := Kd.F_cut (m := (4 : Int).toNat) (c := c0) hC15 (by omega) hroom15; obtain ⟨A15, hA15⟩ : ∃ A1, A1 = (if c0 = (4 : Int).toNat then A0 else (A0 : Option Addr).map (·.add ((4 : Int).toNat * 1))) := ⟨_, rfl⟩; obtain ⟨c15, hc15⟩ : ∃ c1, c1 = c0 - (4 : Int).toNat := ⟨_, rfl⟩; have hy15 : y132.length = l0.length - (4 : Int).toNat := (by rw [Ny132.out, List.length_drop] <;> omega); rw [show (l0).drop (4 : Int).toNat = y132 from Ny132.out.symm] at hr15; replace hr15 : Kd.F (Kd.int .u8) _ _ A15 y132.length y132 := (by rw [hA15]; exact hr15); rw [← hy15, ← hA15, ← hc15] at hcut15; have HO136 := Ext.a (show Kd.V (Kd.int .u8) 5 _ w.heap.size _ (.slice A15 y132.length c15) y132 from Kd.V_mk (by rw [hy15, hc15]; exact Nat.sub_le_sub_right hroom15 _) hr15); have HC136 := Ext.a (show y132.length ≤ c15 from by rw [hy15, hc15]; exact Nat.sub_le_sub_right hroom15 _); clear hr15 hC15 hroom15 hi015 hsz15 hc15; have KY15 := Aside0.mk hy15; have KA15 := Aside0.mk hA15; clear hy15 hA15; replace q15 := eq_true q15) | ((with_reducible refine gate_dst (N := 20) rfl ?_); refine Kd.N_lit (Kd.slice 5 (Kd.int .u8)) _ 26 ?hg (N' := 20) ?hd (xs := ([y132] : List (List Int))) (inner := [.slice A15 y132.length c15]) (ok := (ok27_1 P0_ w)) (okp := (ok27_1 P0_ w)) ?hr ?hp (fun _ hk => hk) ((show ∀ k_, w.heap.size ≤ k_ → (ok27_1 P0_ w) k_ from fun k_ hk => (.inr (Nat.le_trans (below_size (Ext.nB HB.out)) hk))) _ (Nat.le_refl _)) (Below.refl _ _) (Nat.le_refl _) (by simp) ?_; (case hd => rfl); (case hg => rfl); (case hr => first | (go_simp; done) | (go_simp; rfl)); (case hp => exact (Reps.one (show Kd.FK (Kd.slice 5 (Kd.int .u8)) _ _ y132 [.slice A15 y132.length c15] from (Kd.FK_slice_mk (Kd.V_reads' (Kd.V_mono (e := 0) (base := 0) (ok' := (ok27_1 P0_ w)) (HO136.out) (fun k_ hk => hk))).2.1 (Kd.V_F (e := 0) (base := 0) (Kd.V_mono (e := 0) (base := 0) (ok' := (ok27_1 P0_ w)) (HO136.out) (fun k_ hk => hk))))) (Reps.none _ _))); intro v138 w16 ho17 hb hg_ hnew_; clear hg_ hnew_; (first | rw [← Ny137.out] at ho17 | (simp only [Int.reduceToNat] at ho17; rw [← Ny137.out] at ho17)); have n0_ := Ext.a (Kd.V_elder' (Ext.nV HO0.out) (Kd.N_base ho17) hb); have n1_ := Ext.a (Kd.V_elder' (Ext.nV HO136.out) (Kd.N_base ho17) hb); have n2_ := Ext.a (Kd.N_lower ho17 (below_size (Ext.nB HB.out))); have n3_ := Ext.a (below_step (Ext.nB HB.out) hb); clear HO0 HO136 HB; have HO0 := n0_; have HO136 := n1_; have HO139 := n2_; have HB := n3_; clear n0_ n1_ n2_ n3_; clear hb ho17; obtain ⟨Ao18, co18, eo18⟩ := Kd.N_slice HO139.out; subst eo18) | ((with_reducible refine gate_callee (f := 34) rfl ?_); refine goesL_ (some 21) rfl rfl Try.func34 (by kernel_rfl) rfl #[.slice Ao18 y137.length co18] rfl (by (try simp only [List.map_toArray, List.map_cons, List.map_nil]); first | done | rfl | (simp only [List.length_drop, List.length_take]; rfl)) ?_; (with_reducible refine (sum_Sum.calls k _ _ y137 t140 _ ?side1 ?side2 A5.out).mono ?_); (case side1 => exact Ext.nC (Kd.N_reads' HO139.out).2.2); (case side2 => exact (Kd.N_reads' HO139.out).2.1); rintro e w' ⟨rfl, ⟨nd, rfl⟩⟩; refine ⟨_, rfl, ?_⟩))
    go_ret2
    exact ⟨_, by first | rfl | (simp [errW_none, errW_some] <;> rfl) | (simp [*, errW_none, errW_some] <;> rfl), by first | exact Kd.R_nil _ _ _ _ _ | exact Kd.N_nil _ _ _ _ _ | exact Kd.V_nil _ _ _ _ _ | exact Kd.Q_nil _ _ _ _ _ | exact Kd.S_nil _ _ _ _ _, by repeat (first | (with_reducible first | exact HB.out | apply Ext.ba | apply Ext.bn | apply Ext.bd) | exact HB.out | exact .refl _ _)⟩
  · rw [if_neg c4] at H; exact absurd H (by simp)
 ·
  rw [if_neg c3] at H
  have c3b0 : (t131 == 0) = false := beq_eq_false_iff_ne.mpr c3
  have c3b1 : (t131 != 0) = true := bne_iff_ne.mpr c3
  simp only [Option.some.injEq, Prod.mk.injEq] at H
  obtain ⟨rfl, rfl⟩ := H
  go_enter Try.func27, Try.ntmps27
  go_wp2_with (first | ((with_reducible refine gate_callee (f := 35) rfl ?_); refine goesL_ (some 8) rfl rfl Try.func35 (by kernel_rfl) rfl #[.slice A0 l0.length c0, .int .i64 0, .int .i64 4] rfl (by (try simp only [List.map_toArray, List.map_cons, List.map_nil]); first | done | rfl | (simp only [List.length_drop, List.length_take]; rfl)) ?_; (with_reducible refine (octets_Get.calls k _ _ l0 0 4 t130 t131 _ ?side1 ?side2 A2.out).mono ?_); (case side1 => exact Ext.nC (Kd.V_reads' HO0.out).2.2); (case side2 => exact (Kd.V_reads' HO0.out).2.1); rintro e w' ⟨rfl, ⟨nd, rfl⟩⟩; refine ⟨_, rfl, ?_⟩))
  go_ret2
  exact ⟨_, by first | rfl | (simp [errW_none, errW_some] <;> rfl) | (simp [*, errW_none, errW_some] <;> rfl), by first | exact Kd.R_nil _ _ _ _ _ | exact Kd.N_nil _ _ _ _ _ | exact Kd.V_nil _ _ _ _ _ | exact Kd.Q_nil _ _ _ _ _ | exact Kd.S_nil _ _ _ _ _, by repeat (first | (with_reducible first | exact HB.out | apply Ext.ba | apply Ext.bn | apply Ext.bd) | exact HB.out | exact .refl _ _)⟩

end Go.Proofs.Ytfkihcdonddcoaa.PR
