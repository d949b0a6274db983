-- Written by wip/printx.py, a program of this work over the kit's print, for this claim.
import Derived.Test.YtlhjdmpclfhoeaaPKx0
import Derived.Test.YtlhjdmpclfhoeaaPKx10
namespace Go.Proofs.Ytlhjdmpclfhoeaa.PK
open Go.RowKit Go.Proofs.YtlhjdmpclfhoeaaW.PrintWords Go.Proofs.YtlhjdmpclfhoeaaW.PrintLast Go.Proofs.YtlhjdmpclfhoeaaW.PrintMore
attribute [local go_sem] max2_int min2_int max_two min_two max_three min_three max_four min_four   -- for this text's walks alone
attribute [local go_sem] Ext.pick_u8 Ext.pick_u32 Ext.pick_u64
set_option linter.unusedVariables false
set_option linter.unusedSimpArgs false



/-! ### octets_Get: function 66 -/
mutual
def octets_Get.j0 : Nat → List Int → Int → Int → Bool → Option (Int × Int)
 | 0, _, _, _, _ => none
 | k + 1, x0, x1, x2, x16 => if x16 = true then (some (0, 1)) else (if x1 < 0 then (octets_Get.j1 k x0 x1 x2 true) else (if x1 > (x0.length : Int) then (octets_Get.j1 k x0 x1 x2 true) else (octets_Get.j1 k x0 x1 x2 (decide (x2 > (wrap64 ((x0.length : Int) - x1)))))))
def octets_Get.j1 : Nat → List Int → Int → Int → Bool → Option (Int × Int)
 | 0, _, _, _, _ => none
 | k + 1, x0, x1, x2, x32 => if x32 = true then (some (0, 3)) else (if 0 ≤ x1 then (if x1 ≤ (wrap64 (x1 + x2)) then (if (wrap64 (x1 + x2)) ≤ (x0.length : Int) then ((some ((x0.take ((wrap64 (x1 + x2)) : Int).toNat).drop (x1 : Int).toNat : List Int)).bind fun y279 => (octets_Get.l0 k 0 y279 (y279.length : Int) 0)) else (none)) else (none)) else (none))
def octets_Get.l0 : Nat → Int → List Int → Int → Int → Option (Int × Int)
 | 0, _, _, _, _ => none
 | k + 1, x8, x38, x39, x40 => if x40 < x39 then (if 0 ≤ x40 then (if x40 < (x38.length : Int) then (octets_Get.l0 k (Go.bits .or .u64 (IntKind.u64.wrap (x8 * 256)) (IntKind.u64.wrap (rd x38 x40))) x38 x39 (wrap64 (x40 + 1))) else (none)) else (none)) else (some (x8, 0))
end
def octets_Get.f (k : Nat) (l0 : List Int) (a1 : Int) (a2 : Int) : Option (Int × Int) := if a2 < 1 then (octets_Get.j0 k l0 a1 a2 true) else (octets_Get.j0 k l0 a1 a2 (decide (a2 > 8)))
theorem octets_Get.mono_l : ∀ k, (∀ y0 y1 y2 y3, LeO (octets_Get.j0 k y0 y1 y2 y3) (octets_Get.j0 (k + 1) y0 y1 y2 y3)) ∧ (∀ y0 y1 y2 y3, LeO (octets_Get.j1 k y0 y1 y2 y3) (octets_Get.j1 (k + 1) y0 y1 y2 y3)) ∧ (∀ y0 y1 y2 y3, LeO (octets_Get.l0 k y0 y1 y2 y3) (octets_Get.l0 (k + 1) y0 y1 y2 y3))
 | 0 => ⟨fun _ _ _ _ r h => by simp [octets_Get.j0] at h, fun _ _ _ _ r h => by simp [octets_Get.j1] at h, fun _ _ _ _ r h => by simp [octets_Get.l0] at h⟩
 | k + 1 => by
  obtain ⟨ih0, ih1, ih2⟩ := octets_Get.mono_l k; refine ⟨?_, ?_, ?_⟩
  ·
   intro y0 y1 y2 y3
   unfold octets_Get.j0
   repeat' first
   | (with_reducible exact ih0 _ _ _ _)
   | (with_reducible exact ih1 _ _ _ _)
   | (with_reducible exact ih2 _ _ _ _)
   | (with_reducible exact LeO.refl _)
   | (with_reducible exact LeO.none _)
   | (with_reducible refine LeO.ite ?_ ?_)
   | (with_reducible refine LeO.bind ?_ (fun _ => ?_))
   | exact ih0 _ _ _ _
   | exact ih1 _ _ _ _
   | exact ih2 _ _ _ _
   | exact LeO.none _
   | refine LeO.ite ?_ ?_
   | refine LeO.bind ?_ (fun _ => ?_)
  ·
   intro y0 y1 y2 y3
   unfold octets_Get.j1
   repeat' first
   | (with_reducible exact ih0 _ _ _ _)
   | (with_reducible exact ih1 _ _ _ _)
   | (with_reducible exact ih2 _ _ _ _)
   | (with_reducible exact LeO.refl _)
   | (with_reducible exact LeO.none _)
   | (with_reducible refine LeO.ite ?_ ?_)
   | (with_reducible refine LeO.bind ?_ (fun _ => ?_))
   | exact ih0 _ _ _ _
   | exact ih1 _ _ _ _
   | exact ih2 _ _ _ _
   | exact LeO.none _
   | refine LeO.ite ?_ ?_
   | refine LeO.bind ?_ (fun _ => ?_)
  ·
   intro y0 y1 y2 y3
   unfold octets_Get.l0
   repeat' first
   | (with_reducible exact ih0 _ _ _ _)
   | (with_reducible exact ih1 _ _ _ _)
   | (with_reducible exact ih2 _ _ _ _)
   | (with_reducible exact LeO.refl _)
   | (with_reducible exact LeO.none _)
   | (with_reducible refine LeO.ite ?_ ?_)
   | (with_reducible refine LeO.bind ?_ (fun _ => ?_))
   | exact ih0 _ _ _ _
   | exact ih1 _ _ _ _
   | exact ih2 _ _ _ _
   | exact LeO.none _
   | refine LeO.ite ?_ ?_
   | refine LeO.bind ?_ (fun _ => ?_)
theorem octets_Get.mono : ∀ a0 a1 a2 k, LeO (octets_Get.f k a0 a1 a2) (octets_Get.f (k + 1) a0 a1 a2) := by
 intro a0 a1 a2 k
 obtain ⟨ih0, ih1, ih2⟩ := octets_Get.mono_l k; unfold octets_Get.f
 repeat' first
   | (with_reducible exact ih0 _ _ _ _)
   | (with_reducible exact ih1 _ _ _ _)
   | (with_reducible exact ih2 _ _ _ _)
   | (with_reducible exact LeO.refl _)
   | (with_reducible exact LeO.none _)
   | (with_reducible refine LeO.ite ?_ ?_)
   | (with_reducible refine LeO.bind ?_ (fun _ => ?_))
   | exact ih0 _ _ _ _
   | exact ih1 _ _ _ _
   | exact ih2 _ _ _ _
   | exact LeO.none _
   | refine LeO.ite ?_ ?_
   | refine LeO.bind ?_ (fun _ => ?_)
set_option maxHeartbeats 8000000 in
set_option maxRecDepth 100000 in
theorem octets_Get.calls (k : Nat) (A0 : Option Addr) (c0 : Nat) (l0 : List Int) (a1 : Int) (a2 : Int) (r1 : Int) (r2 : Int) (w : World) (hr0 : Kd.C (Kd.int .u8) w A0 l0.length l0) (hc0 : l0.length ≤ c0) (h : octets_Get.f k l0 a1 a2 = some (r1, r2)) :
  Calls Try.prog 66 #[.slice A0 l0.length c0, .int .i64 a1, .int .i64 a2] w fun e w' => e = .returned (.tuple #[.int .u64 r1, .int .i64 r2]) ∧ Drawn0 w w' := by
 have HR0 := Aside0.mk hr0; have HC0 := Aside0.mk hc0; clear hr0 hc0; have H := h; unfold octets_Get.f at H; clear h; have HC4 := Aside0.mk H; clear H
 go_enter Try.func66, Try.ntmps66
 go_upto_region 1 with (fail)
 go_cut [16] (fun v16 wc => ∃ (kq : Nat) (x16_3 : Bool), v16 = .bool x16_3 ∧ Aside0 (octets_Get.j0 kq l0 a1 a2 x16_3 = some (r1, r2)) ∧ Aside0 (kq ≤ k) ∧ Drawn0 w wc)
 case first =>
  have H := HC4.out; clear HC4
  by_cases c5 : a2 < 1
  case' _ =>
   rw [if_pos c5] at H; have c5b0 := decide_eq_true c5; clear c5
   (first | rw [c5b0] | (simp only [i64_w, i32_w]; rw [c5b0]) | skip)
  rotate_left 1
  case' _ =>
   rw [if_neg c5] at H; have c5b0 := decide_eq_false c5; clear c5
   (first | rw [c5b0] | (simp only [i64_w, i32_w]; rw [c5b0]) | skip)
  all_goals (have H' := Aside0.mk H; clear H; go_wp2; go_meet; (case rel => exact ⟨_, _, (by first | rfl | (simp; done) | (simp [*]; done)), H', ⟨by first | omega | exact Nat.le_refl _⟩, by repeat (first | exact Drawn0.refl _ | apply Drawn0.step)⟩))
 case rest =>
  clear HC4; (try clear p2 c5b0); obtain ⟨kq, x16_3, rfl, HA, HJ3, ⟨mc3, rfl⟩⟩ := hcut; cases kq with
  | zero => exact absurd HA.out (by simp [octets_Get.j0])
  | succ kj3 =>
   have H := HA.out; clear HA; simp only [octets_Get.j0] at H
   by_cases c6 : x16_3 = true
   ·
    subst c6; rw [if_pos rfl] at H; simp only [Option.some.injEq, Prod.mk.injEq] at H; obtain ⟨rfl, rfl⟩ := H
    go_wp2
    go_ret2
    exact ⟨by first | rfl | (simp; done) | (simp [*]; done), by repeat (first | exact Drawn0.refl _ | apply Drawn0.step)⟩
   ·
    replace c6 := Bool.eq_false_iff.mpr c6; subst c6; rw [if_neg Bool.false_ne_true] at H; have HC7 := Aside0.mk H; clear H
    go_upto_region 3 with (fail)
    go_cut [32] (fun v32 wc => ∃ (kq : Nat) (x32_6 : Bool), v32 = .bool x32_6 ∧ Aside0 (octets_Get.j1 kq l0 a1 a2 x32_6 = some (r1, r2)) ∧ Aside0 (kq ≤ kj3) ∧ Drawn0 w wc)
    case first =>
     have H := HC7.out; clear HC7
     by_cases c8 : a1 < 0
     case' _ =>
      rw [if_pos c8] at H; have c8b0 := decide_eq_true c8; clear c8
      (first | rw [c8b0] | (simp only [i64_w, i32_w]; rw [c8b0]) | skip)
     rotate_left 1
     case' _ =>
      rw [if_neg c8] at H; have c8b0 := decide_eq_false c8; clear c8
      (first | rw [c8b0] | (simp only [i64_w, i32_w]; rw [c8b0]) | skip)
      by_cases c9 : a1 > (l0.length : Int)
      case' _ =>
       rw [if_pos c9] at H; have c9b0 := decide_eq_true c9; clear c9
      rotate_left 1
      case' _ =>
       rw [if_neg c9] at H; have c9b0 := decide_eq_false c9; clear c9
     all_goals (have H' := Aside0.mk H; clear H; go_wp2; go_meet; (case rel => exact ⟨_, _, (by first | rfl | (simp; done) | (simp [*]; done)), H', ⟨by have := HJ3.out; first | omega | exact Nat.le_refl _⟩, by repeat (first | exact Drawn0.refl _ | apply Drawn0.step)⟩))
    case rest =>
     clear HC7; (try clear c3 p6 c8b0 c9b0); obtain ⟨kq, x32_6, rfl, HA, HJ6, ⟨mc6, rfl⟩⟩ := hcut; cases kq with
     | zero => exact absurd HA.out (by simp [octets_Get.j1])
     | succ kj6 =>
      have H := HA.out; clear HA; simp only [octets_Get.j1] at H
      by_cases c10 : x32_6 = true
      ·
       subst c10; rw [if_pos rfl] at H; simp only [Option.some.injEq, Prod.mk.injEq] at H; obtain ⟨rfl, rfl⟩ := H
       go_wp2
       go_ret2
       exact ⟨by first | rfl | (simp; done) | (simp [*]; done), by repeat (first | exact Drawn0.refl _ | apply Drawn0.step)⟩
      ·
       replace c10 := Bool.eq_false_iff.mpr c10; subst c10; rw [if_neg Bool.false_ne_true] at H
       by_cases c11 : 0 ≤ a1
       ·
        rw [if_pos c11] at H; have c11b0 := eq_true c11; have c11b1 := decide_eq_true c11; clear c11
        by_cases c12 : a1 ≤ (wrap64 (a1 + a2))
        ·
         rw [if_pos c12] at H; have c12b0 := eq_true c12; have c12b1 := decide_eq_true c12
         by_cases c13 : (wrap64 (a1 + a2)) ≤ (l0.length : Int)
         ·
          rw [if_pos c13] at H; have c13b0 := eq_true c13; have c13b1 := decide_eq_true c13; obtain ⟨y279, hy279⟩ : ∃ y_ : List Int, y_ = ((l0.take ((wrap64 (a1 + a2)) : Int).toNat).drop (a1 : Int).toNat) := ⟨_, rfl⟩
          replace H : (octets_Get.l0 kj6 0 y279 (y279.length : Int) 0) = some (r1, r2) := by first | (rw [hy279]; with_reducible exact H) | (have H2_ := (Option.bind_some _ _).symm.trans H; rw [hy279]; with_reducible exact H2_) | (have H2_ := (Option.bind_some _ _).symm.trans H; with_reducible exact H2_) | with_reducible exact H | (rw [hy279]; exact H) | exact H
          have Ny279 := Aside0.mk hy279; clear hy279; have H' := Aside0.mk H; clear H; have q14 : ((wrap64 (a1 + a2)) : Int) ≤ ((l0.length : Int) : Int) := of_decide_eq_true (by first | (with_reducible assumption) | assumption); obtain ⟨i014, hi014, _, hsz14, _⟩ := info_parts info5; have hroom14 : l0.length ≤ c0 := HC0.out; have hC14 : Kd.C (Kd.int .u8) _ A0 l0.length l0 := HR0.out; have ql14 : (a1 : Int) ≤ ((wrap64 (a1 + a2)) : Int) := of_decide_eq_true (by first | (with_reducible assumption) | assumption); have q014 : (0 : Int) ≤ (a1 : Int) := of_decide_eq_true (by first | (with_reducible assumption) | assumption); have hcut14 := cut_mid (P := Try.prog) 36 5 .i64 .i64 Try.underlying36 hi014 1 hsz14 A0 l0.length c0 a1 (wrap64 (a1 + a2)) q014 ql14 q14 hroom14; have hr14 := Kd.C_mid (lo := (a1 : Int).toNat) (hi := ((wrap64 (a1 + a2)) : Int).toNat) (c := c0) hC14 (by omega) (by omega) hroom14; obtain ⟨A14, hA14⟩ : ∃ A1, A1 = (if c0 = (a1 : Int).toNat then A0 else (A0 : Option Addr).map (·.add ((a1 : Int).toNat * 1))) := ⟨_, rfl⟩; obtain ⟨c14, hc14⟩ : ∃ c1, c1 = c0 - (a1 : Int).toNat := ⟨_, rfl⟩; have hy14 : y279.length = ((wrap64 (a1 + a2)) : Int).toNat - (a1 : Int).toNat := (by rw [Ny279.out, List.length_drop, List.length_take] <;> omega); rw [show ((l0).take ((wrap64 (a1 + a2)) : Int).toNat).drop (a1 : Int).toNat = y279 from Ny279.out.symm] at hr14; replace hr14 : Kd.C (Kd.int .u8) _ A14 y279.length y279 := (by rw [hA14]; exact hr14); rw [← hy14, ← hA14, ← hc14] at hcut14; have HR282 := Aside0.mk hr14
          have HC282 := Ext.a (show y279.length ≤ c14 from by rw [hy14, hc14]; exact Nat.sub_le_sub_right (Nat.le_trans (by omega) hroom14) _); clear hr14 hC14 hroom14 hi014 hsz14 hc14; have KY14 := Aside0.mk hy14; have KA14 := Aside0.mk hA14; clear hy14 hA14; replace q14 := eq_true q14
          go_wp2
          go_loopg [8, 40] kj6 (fun kq v8 v40 w' => ∃ (x8_3 : Int) (x40_3 : Int), v8 = .int .u64 x8_3 ∧ v40 = .int .i64 x40_3 ∧ Aside0 (octets_Get.l0 kq x8_3 y279 (y279.length : Int) x40_3 = some (r1, r2)) ∧ Aside0 (kq ≤ kj6) ∧ Drawn0 w w')
          case atStart => exact ⟨(0), (0), (by first | rfl | (simp; done) | (simp [*]; done)), (by first | rfl | (simp; done) | (simp [*]; done)), H', ⟨Nat.le_refl _⟩, by repeat (first | exact Drawn0.refl _ | apply Drawn0.step)⟩
          case round =>
           clear H'; (try clear c1 q1 c11b0 c11b1 c12 c12b0 c12b1 c13 c13b0 c13b1 c14 q14 q014); obtain ⟨x8_3, x40_3, rfl, rfl, HA, HK3, ⟨m3, rfl⟩⟩ := hrel; cases gk with
           | zero => exact absurd HA.out (by simp [octets_Get.l0])
           | succ k3 =>
            have H := HA.out; clear HA; simp only [octets_Get.l0] at H
            by_cases c15 : x40_3 < (y279.length : Int)
            ·
             rw [if_pos c15] at H; have c15b0 := decide_eq_true c15; clear c15
             by_cases c16 : 0 ≤ x40_3
             ·
              rw [if_pos c16] at H; have c16b0 := decide_eq_true c16; clear c16
              by_cases c17 : x40_3 < (y279.length : Int)
              ·
               rw [if_pos c17] at H; have c17b0 := decide_eq_true c17; clear c17; have H' := Aside0.mk H; clear H; have p283 : 0 ≤ (x40_3 : Int) := of_decide_eq_true (by first | (with_reducible assumption) | assumption); have q283 : x40_3 < (y279.length : Int) := of_decide_eq_true (by first | (with_reducible assumption) | assumption); obtain ⟨ad283, e283, hx283_0⟩ := Kd.at_int HR282.out x40_3 p283 q283; cases e283; replace p283 := eq_true p283; replace q283 := eq_true q283
               go_wp2
               go_roundg k3
               case measure => have := HJ3.out; have := HJ6.out; have := HK3.out; omega
               case rel => exact ⟨(Go.bits .or .u64 (IntKind.u64.wrap (x8_3 * 256)) (IntKind.u64.wrap (rd y279 x40_3))), (wrap64 (x40_3 + 1)), (by first | rfl | (simp; done) | (simp [*]; done)), (by first | rfl | (simp; done) | (simp [*]; done)), H', ⟨by have := HJ3.out; have := HJ6.out; have := HK3.out; omega⟩, by repeat (first | exact Drawn0.refl _ | apply Drawn0.step)⟩
              · rw [if_neg c17] at H; exact absurd H (by simp)
             · rw [if_neg c16] at H; exact absurd H (by simp)
            ·
             rw [if_neg c15] at H; have c15b0 := decide_eq_false c15; clear c15; simp only [Option.some.injEq, Prod.mk.injEq] at H; obtain ⟨rfl, rfl⟩ := H
             go_wp2
             go_ret2
             exact ⟨by first | rfl | (simp; done) | (simp [*]; done), by repeat (first | exact Drawn0.refl _ | apply Drawn0.step)⟩
         · rw [if_neg c13] at H; exact absurd H (by simp)
        · rw [if_neg c12] at H; exact absurd H (by simp)
       · rw [if_neg c11] at H; exact absurd H (by simp)



/-! ### octets_Reader_Num: function 59 -/
def octets_Reader_Num.f (k : Nat) (s0_0 : List Int) (s0_1 : Int) (s0_2 : Int) (a1 : Int) : Option (Int × Int × Int) := (octets_Reader_over.f s0_0 s0_1 s0_2).bind fun bt284 => (if bt284.1 = true then (some (0, bt284.2.1, bt284.2.2)) else ((octets_Get.f k s0_0 bt284.2.1 a1).bind fun bt287 => (if bt287.2 = 0 then (some (bt287.1, wrap64 (bt284.2.1 + a1), bt287.2)) else (some (bt287.1, bt284.2.1, bt287.2)))))
theorem octets_Reader_Num.mono : ∀ a0 a1 a2 a3 k, LeO (octets_Reader_Num.f k a0 a1 a2 a3) (octets_Reader_Num.f (k + 1) a0 a1 a2 a3) := by
 intro a0 a1 a2 a3 k
 unfold octets_Reader_Num.f
 repeat' first
   | (with_reducible exact octets_Get.mono _ _ _ _)
   | (with_reducible exact LeO.refl _)
   | (with_reducible exact LeO.none _)
   | (with_reducible refine LeO.ite ?_ ?_)
   | (with_reducible refine LeO.bind ?_ (fun _ => ?_))
   | exact octets_Get.mono _ _ _ _
   | exact LeO.none _
   | refine LeO.ite ?_ ?_
   | refine LeO.bind ?_ (fun _ => ?_)
set_option maxHeartbeats 8000000 in
set_option maxRecDepth 100000 in
theorem octets_Reader_Num.calls (k : Nat) (g : Nat) (s0_0 : List Int) (s0_1 : Int) (s0_2 : Int) (a1 : Int) (r1 : Int) (r2 : Int) (r3 : Int) (w0 w : World) (hI : IsS96 w0 w g s0_0 s0_1 s0_2) (hB : Below w0.heap.size w0 w) (h : octets_Reader_Num.f k s0_0 s0_1 s0_2 a1 = some (r1, r2, r3)) :
  Calls Try.prog 59 #[.pointer (some ⟨g, 0, none⟩), .int .i64 a1] w fun e w' => e = .returned (.int .u64 r1) ∧ IsS96 w0 w' g s0_0 r2 r3 ∧ Below w0.heap.size w0 w' ∧ KeepBut w w' g none := by
 have HI0 := Aside0.mk hI; have HK := Ext.a (KeepBut.refl w g none); have HL := Aside0.mk hB.size; clear hI; have HW0 := Aside0.mk hB.size; have HB := Aside0.mk hB; clear hB; have H := h; unfold octets_Reader_Num.f at H; clear h; replace H := Option.bind_eq_some_iff.mp H; obtain ⟨⟨t284, t285, t286⟩, A30, H⟩ := H; (try dsimp only at H); have A3 := Aside0.mk A30; clear A30
 by_cases c4 : t284 = true
 ·
  subst c4; rw [if_pos rfl] at H; simp only [Option.some.injEq, Prod.mk.injEq] at H; obtain ⟨rfl, rfl, rfl⟩ := H
  go_enter Try.func59, Try.ntmps59
  go_wp2_with (first | (go_at_call 64; (with_reducible refine (octets_Reader_over.calls g s0_0 s0_1 s0_2 true t285 t286 w0 _ ?side1 ?side2 A3.out).mono ?_); (case side1 => exact IsS96.go HI0.out); (case side2 => exact Ext.s1 (IsS96.ge HI0.out) HB.out); rintro e w5 ⟨rfl, hi, hb, hk⟩; replace HK := Ext.a (KeepBut.trans (Ext.k0 HK.out) hk (.inl rfl)); replace HB := Ext.a (hb); replace HI0 := Ext.a (hi); (try clear hb hk hi)))
  repeat (go_quiet (first | (go_at_call 64; (with_reducible refine (octets_Reader_over.calls g s0_0 s0_1 s0_2 true t285 t286 w0 _ ?side1 ?side2 A3.out).mono ?_); (case side1 => exact IsS96.go HI0.out); (case side2 => exact Ext.s1 (IsS96.ge HI0.out) HB.out); rintro e w5 ⟨rfl, hi, hb, hk⟩; replace HK := Ext.a (KeepBut.trans (Ext.k0 HK.out) hk (.inl rfl)); replace HB := Ext.a (hb); replace HI0 := Ext.a (hi); (try clear hb hk hi))); try go_wp2_with (first | (go_at_call 64; (with_reducible refine (octets_Reader_over.calls g s0_0 s0_1 s0_2 true t285 t286 w0 _ ?side1 ?side2 A3.out).mono ?_); (case side1 => exact IsS96.go HI0.out); (case side2 => exact Ext.s1 (IsS96.ge HI0.out) HB.out); rintro e w5 ⟨rfl, hi, hb, hk⟩; replace HK := Ext.a (KeepBut.trans (Ext.k0 HK.out) hk (.inl rfl)); replace HB := Ext.a (hb); replace HI0 := Ext.a (hi); (try clear hb hk hi))))
  go_ret
  exact ⟨by first | rfl | (simp [errW_none, errW_some] <;> rfl) | (simp [*, errW_none, errW_some] <;> rfl), by exact IsS96.go HI0.out, by exact Ext.s1 (IsS96.ge HI0.out) HB.out, by exact Ext.k0 HK.out⟩
 ·
  replace c4 := Bool.eq_false_iff.mpr c4; subst c4; rw [if_neg Bool.false_ne_true] at H; replace H := Option.bind_eq_some_iff.mp H; obtain ⟨⟨t287, t288⟩, A60, H⟩ := H; (try dsimp only at H); have A6 := Aside0.mk A60; clear A60
  by_cases c7 : t288 = 0
  case' _ =>
   rw [if_pos c7] at H; obtain ⟨c7b0, c7b1⟩ := Ext.eT c7; clear c7
  rotate_left 1
  case' _ =>
   rw [if_neg c7] at H; obtain ⟨c7b0, c7b1⟩ := Ext.eF c7
  all_goals (simp only [Option.some.injEq, Prod.mk.injEq] at H; obtain ⟨rfl, rfl, rfl⟩ := H; go_enter Try.func59, Try.ntmps59; go_wp2_with (first | (go_at_call 64; (with_reducible refine (octets_Reader_over.calls g s0_0 s0_1 s0_2 false t285 t286 w0 _ ?side1 ?side2 A3.out).mono ?_); (case side1 => exact IsS96.go HI0.out); (case side2 => exact Ext.s1 (IsS96.ge HI0.out) HB.out); rintro e q0_ ⟨rfl, hi, hb, hk⟩; replace HK := Ext.a (KeepBut.trans (Ext.k0 HK.out) hk (.inl rfl)); replace HB := Ext.a (hb); replace HI0 := Ext.a (hi); (try clear hb hk hi); obtain ⟨q1_, q2_, q3_, q4_, q5_⟩ := HI0.out; have q6_ := cellS96_0 q3_; have q7_ := cellS96_1 q3_; have q8_ := cellS96_2 q3_; have q9_ := blk_frozen q3_ 1; have q10_ := blk_frozen q3_ 2; clear q3_ q4_) | (go_at_call 66; (with_reducible refine (octets_Get.calls k _ _ s0_0 t285 a1 t287 t288 _ ?side1 ?side2 A6.out).mono ?_); (case side1 => exact Kd.C_below q5_.1 (Ext.s1 (IsS96.ge HI0.out) HB.out)); (case side2 => exact q5_.2); rintro e w' ⟨rfl, ⟨nd, rfl⟩⟩; (try first | exact ⟨rfl, _, World.drewN_drewN _ _ _⟩ | exact ⟨rfl, _, Eq.trans (World.drewN_drewN _ _ _) (congrArg (World.drewN _) (Nat.add_assoc _ _ _))⟩))); (repeat (go_quiet (first | (go_at_call 64; (with_reducible refine (octets_Reader_over.calls g s0_0 s0_1 s0_2 false t285 t286 w0 _ ?side1 ?side2 A3.out).mono ?_); (case side1 => exact IsS96.go HI0.out); (case side2 => exact Ext.s1 (IsS96.ge HI0.out) HB.out); rintro e q0_ ⟨rfl, hi, hb, hk⟩; replace HK := Ext.a (KeepBut.trans (Ext.k0 HK.out) hk (.inl rfl)); replace HB := Ext.a (hb); replace HI0 := Ext.a (hi); (try clear hb hk hi); obtain ⟨q1_, q2_, q3_, q4_, q5_⟩ := HI0.out; have q6_ := cellS96_0 q3_; have q7_ := cellS96_1 q3_; have q8_ := cellS96_2 q3_; have q9_ := blk_frozen q3_ 1; have q10_ := blk_frozen q3_ 2; clear q3_ q4_) | (go_at_call 66; (with_reducible refine (octets_Get.calls k _ _ s0_0 t285 a1 t287 t288 _ ?side1 ?side2 A6.out).mono ?_); (case side1 => exact Kd.C_below q5_.1 (Ext.s1 (IsS96.ge HI0.out) HB.out)); (case side2 => exact q5_.2); rintro e w' ⟨rfl, ⟨nd, rfl⟩⟩; (try first | exact ⟨rfl, _, World.drewN_drewN _ _ _⟩ | exact ⟨rfl, _, Eq.trans (World.drewN_drewN _ _ _) (congrArg (World.drewN _) (Nat.add_assoc _ _ _))⟩))); try go_wp2_with (first | (go_at_call 64; (with_reducible refine (octets_Reader_over.calls g s0_0 s0_1 s0_2 false t285 t286 w0 _ ?side1 ?side2 A3.out).mono ?_); (case side1 => exact IsS96.go HI0.out); (case side2 => exact Ext.s1 (IsS96.ge HI0.out) HB.out); rintro e q0_ ⟨rfl, hi, hb, hk⟩; replace HK := Ext.a (KeepBut.trans (Ext.k0 HK.out) hk (.inl rfl)); replace HB := Ext.a (hb); replace HI0 := Ext.a (hi); (try clear hb hk hi); obtain ⟨q1_, q2_, q3_, q4_, q5_⟩ := HI0.out; have q6_ := cellS96_0 q3_; have q7_ := cellS96_1 q3_; have q8_ := cellS96_2 q3_; have q9_ := blk_frozen q3_ 1; have q10_ := blk_frozen q3_ 2; clear q3_ q4_) | (go_at_call 66; (with_reducible refine (octets_Get.calls k _ _ s0_0 t285 a1 t287 t288 _ ?side1 ?side2 A6.out).mono ?_); (case side1 => exact Kd.C_below q5_.1 (Ext.s1 (IsS96.ge HI0.out) HB.out)); (case side2 => exact q5_.2); rintro e w' ⟨rfl, ⟨nd, rfl⟩⟩; (try first | exact ⟨rfl, _, World.drewN_drewN _ _ _⟩ | exact ⟨rfl, _, Eq.trans (World.drewN_drewN _ _ _) (congrArg (World.drewN _) (Nat.add_assoc _ _ _))⟩))))); go_ret; exact ⟨by first | rfl | (simp [errW_none, errW_some] <;> rfl) | (simp [*, errW_none, errW_some] <;> rfl), by exact IsS96.go HI0.out, by exact Ext.s1 (IsS96.ge HI0.out) HB.out, by exact Ext.k0 HK.out⟩)
end Go.Proofs.Ytlhjdmpclfhoeaa.PK
