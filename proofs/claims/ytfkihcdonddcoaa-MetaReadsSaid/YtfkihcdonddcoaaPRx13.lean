-- Written by wip/printx.py, a program of this work over the kit's print, for this claim.
import Derived.Test.YtfkihcdonddcoaaPRx0
import Derived.Test.YtfkihcdonddcoaaPRx10
import Derived.Test.YtfkihcdonddcoaaPRx11
import Derived.Test.YtfkihcdonddcoaaPRx12
namespace Go.Proofs.Ytfkihcdonddcoaa.PR
open Go.RowKit Go.Proofs.YtfkihcdonddcoaaW.PrintWords Go.Proofs.YtfkihcdonddcoaaW.PrintLast Go.Proofs.YtfkihcdonddcoaaW.PrintMore
attribute [local go_sem] max2_int min2_int max_two min_two max_three min_three max_four min_four   -- for this text's walks alone
attribute [local go_sem] Ext.pick_u8 Ext.pick_u32 Ext.pick_u64
set_option linter.unusedVariables false
set_option linter.unusedSimpArgs false



/-! ### terrierref01_Get: function 33 -/
mutual
def terrierref01_Get.j0 : Nat → List Int → Int → Int → Bool → Option (Int × Int)
 | 0, _, _, _, _ => none
 | k + 1, x0, x1, x2, x15 => if x15 = true then (some (0, 1)) else (if x1 < 0 then (terrierref01_Get.j1 k x0 x1 x2 true) else (if x1 > (x0.length : Int) then (terrierref01_Get.j1 k x0 x1 x2 true) else (terrierref01_Get.j1 k x0 x1 x2 (decide ((wrap64 ((x0.length : Int) - x1)) < x2)))))
def terrierref01_Get.j1 : Nat → List Int → Int → Int → Bool → Option (Int × Int)
 | 0, _, _, _, _ => none
 | k + 1, x0, x1, x2, x31 => if x31 = true then (some (0, 3)) else (terrierref01_Get.l0 k x0 x1 x2 0 0)
def terrierref01_Get.l0 : Nat → List Int → Int → Int → Int → Int → Option (Int × Int)
 | 0, _, _, _, _, _ => none
 | k + 1, x0, x1, x2, x8, x9 => if x9 < x2 then (if 0 ≤ (wrap64 (x1 + x9)) then (if (wrap64 (x1 + x9)) < (x0.length : Int) then (terrierref01_Get.l0 k x0 x1 x2 (IntKind.u64.wrap ((IntKind.u64.wrap (256 * x8)) + (IntKind.u64.wrap (rd x0 (wrap64 (x1 + x9)))))) (wrap64 (x9 + 1))) else (none)) else (none)) else (some (x8, 0))
end
def terrierref01_Get.f (k : Nat) (l0 : List Int) (a1 : Int) (a2 : Int) : Option (Int × Int) := if a2 < 1 then (terrierref01_Get.j0 k l0 a1 a2 true) else (terrierref01_Get.j0 k l0 a1 a2 (decide (a2 > 8)))
theorem terrierref01_Get.mono_l : ∀ k, (∀ y0 y1 y2 y3, LeO (terrierref01_Get.j0 k y0 y1 y2 y3) (terrierref01_Get.j0 (k + 1) y0 y1 y2 y3)) ∧ (∀ y0 y1 y2 y3, LeO (terrierref01_Get.j1 k y0 y1 y2 y3) (terrierref01_Get.j1 (k + 1) y0 y1 y2 y3)) ∧ (∀ y0 y1 y2 y3 y4, LeO (terrierref01_Get.l0 k y0 y1 y2 y3 y4) (terrierref01_Get.l0 (k + 1) y0 y1 y2 y3 y4))
 | 0 => ⟨fun _ _ _ _ r h => by simp [terrierref01_Get.j0] at h, fun _ _ _ _ r h => by simp [terrierref01_Get.j1] at h, fun _ _ _ _ _ r h => by simp [terrierref01_Get.l0] at h⟩
 | k + 1 => by
  obtain ⟨ih0, ih1, ih2⟩ := terrierref01_Get.mono_l k
  refine ⟨?_, ?_, ?_⟩
  ·
   intro y0 y1 y2 y3
   unfold terrierref01_Get.j0
   repeat' first
   | (with_reducible exact ih0 _ _ _ _)
   | (with_reducible exact ih1 _ _ _ _)
   | (with_reducible exact ih2 _ _ _ _ _)
   | (with_reducible exact LeO.refl _)
   | (with_reducible exact LeO.none _)
   | (with_reducible refine LeO.ite ?_ ?_)
   | (with_reducible refine LeO.bind ?_ (fun _ => ?_))
   | exact ih0 _ _ _ _
   | exact ih1 _ _ _ _
   | exact ih2 _ _ _ _ _
   | exact LeO.none _
   | refine LeO.ite ?_ ?_
   | refine LeO.bind ?_ (fun _ => ?_)
  ·
   intro y0 y1 y2 y3
   unfold terrierref01_Get.j1
   repeat' first
   | (with_reducible exact ih0 _ _ _ _)
   | (with_reducible exact ih1 _ _ _ _)
   | (with_reducible exact ih2 _ _ _ _ _)
   | (with_reducible exact LeO.refl _)
   | (with_reducible exact LeO.none _)
   | (with_reducible refine LeO.ite ?_ ?_)
   | (with_reducible refine LeO.bind ?_ (fun _ => ?_))
   | exact ih0 _ _ _ _
   | exact ih1 _ _ _ _
   | exact ih2 _ _ _ _ _
   | exact LeO.none _
   | refine LeO.ite ?_ ?_
   | refine LeO.bind ?_ (fun _ => ?_)
  ·
   intro y0 y1 y2 y3 y4
   unfold terrierref01_Get.l0
   repeat' first
   | (with_reducible exact ih0 _ _ _ _)
   | (with_reducible exact ih1 _ _ _ _)
   | (with_reducible exact ih2 _ _ _ _ _)
   | (with_reducible exact LeO.refl _)
   | (with_reducible exact LeO.none _)
   | (with_reducible refine LeO.ite ?_ ?_)
   | (with_reducible refine LeO.bind ?_ (fun _ => ?_))
   | exact ih0 _ _ _ _
   | exact ih1 _ _ _ _
   | exact ih2 _ _ _ _ _
   | exact LeO.none _
   | refine LeO.ite ?_ ?_
   | refine LeO.bind ?_ (fun _ => ?_)
theorem terrierref01_Get.mono : ∀ a0 a1 a2 k, LeO (terrierref01_Get.f k a0 a1 a2) (terrierref01_Get.f (k + 1) a0 a1 a2) := by
 intro a0 a1 a2 k
 obtain ⟨ih0, ih1, ih2⟩ := terrierref01_Get.mono_l k
 unfold terrierref01_Get.f
 repeat' first
   | (with_reducible exact ih0 _ _ _ _)
   | (with_reducible exact ih1 _ _ _ _)
   | (with_reducible exact ih2 _ _ _ _ _)
   | (with_reducible exact LeO.refl _)
   | (with_reducible exact LeO.none _)
   | (with_reducible refine LeO.ite ?_ ?_)
   | (with_reducible refine LeO.bind ?_ (fun _ => ?_))
   | exact ih0 _ _ _ _
   | exact ih1 _ _ _ _
   | exact ih2 _ _ _ _ _
   | exact LeO.none _
   | refine LeO.ite ?_ ?_
   | refine LeO.bind ?_ (fun _ => ?_)
set_option maxHeartbeats 8000000 in
set_option maxRecDepth 100000 in
theorem terrierref01_Get.calls (k : Nat) (A0 : Option Addr) (c0 : Nat) (l0 : List Int) (a1 : Int) (a2 : Int) (r1 : Int) (r2 : Int) (w : World) (hr0 : Kd.C (Kd.int .u8) w A0 l0.length l0) (hc0 : l0.length ≤ c0) (h : terrierref01_Get.f k l0 a1 a2 = some (r1, r2)) :
  Calls Try.prog 33 #[.slice A0 l0.length c0, .int .i64 a1, .int .i64 a2] w fun e w' => e = .returned (.tuple #[.int .u64 r1, .int .i64 r2]) ∧ Drawn0 w w' := by
 have HR0 := Aside0.mk hr0
 have HC0 := Aside0.mk hc0
 clear hr0 hc0
 have H : (if a2 < 1 then (terrierref01_Get.j0 k l0 a1 a2 true) else (terrierref01_Get.j0 k l0 a1 a2 (decide (a2 > 8)))) = some (r1, r2) := h
 clear h
 have HC4 := Aside0.mk H
 clear H
 go_enter Try.func33, Try.ntmps33
 go_upto_region 1 with (fail)
 go_cut [15] (fun v15 wc => ∃ (kq : Nat) (x15_3 : Bool), v15 = .bool x15_3 ∧ Aside0 (terrierref01_Get.j0 kq l0 a1 a2 x15_3 = some (r1, r2)) ∧ Aside0 (kq ≤ k) ∧ Drawn0 w wc)
 case first =>
  have H := HC4.out
  clear HC4
  by_cases c5 : a2 < 1
  ·
   rw [if_pos c5] at H
   have c5b0 : decide (a2 < 1) = true := decide_eq_true c5
   clear c5
   (first | rw [c5b0] | (simp only [i64_w, i32_w]; rw [c5b0]) | skip)
   have H' := Aside0.mk H
   clear H
   go_wp2
   go_meet
   case rel => exact ⟨_, (true), (by first | rfl | (simp; done) | (simp [*]; done)), H', ⟨by first | omega | exact Nat.le_refl _⟩, by repeat (first | exact Drawn0.refl _ | apply Drawn0.step)⟩
  ·
   rw [if_neg c5] at H
   have c5b0 : decide (a2 < 1) = false := decide_eq_false c5
   clear c5
   (first | rw [c5b0] | (simp only [i64_w, i32_w]; rw [c5b0]) | skip)
   have H' := Aside0.mk H
   clear H
   go_wp2
   go_meet
   case rel => exact ⟨_, (decide (a2 > 8)), (by first | rfl | (simp; done) | (simp [*]; done)), H', ⟨by first | omega | exact Nat.le_refl _⟩, by repeat (first | exact Drawn0.refl _ | apply Drawn0.step)⟩
 case rest =>
  clear HC4
  try clear p2
  try clear c3
  try clear c5
  try clear c5b0
  obtain ⟨kq, x15_3, rfl, HA, HJ3, ⟨mc3, rfl⟩⟩ := hcut
  cases kq with
  | zero => exact absurd HA.out (by simp [terrierref01_Get.j0])
  | succ kj3 =>
   have H := HA.out
   clear HA
   simp only [terrierref01_Get.j0] at H
   by_cases c6 : x15_3 = true
   ·
    subst c6
    have H1 : (some (0, 1)) = some (r1, r2) := by rw [if_pos rfl] at H; exact H
    clear H
    have H := H1
    clear H1
    simp only [Option.some.injEq, Prod.mk.injEq] at H
    obtain ⟨rfl, rfl⟩ := H
    go_wp2
    go_ret2
    exact ⟨by first | rfl | (simp; done) | (simp [*]; done), by repeat (first | exact Drawn0.refl _ | apply Drawn0.step)⟩
   ·
    replace c6 := Bool.eq_false_iff.mpr c6
    subst c6
    have H1 : (if a1 < 0 then (terrierref01_Get.j1 kj3 l0 a1 a2 true) else (if a1 > (l0.length : Int) then (terrierref01_Get.j1 kj3 l0 a1 a2 true) else (terrierref01_Get.j1 kj3 l0 a1 a2 (decide ((wrap64 ((l0.length : Int) - a1)) < a2))))) = some (r1, r2) := by rw [if_neg (show ¬ (false = true) by decide)] at H; exact H
    clear H
    have H := H1
    clear H1
    have HC7 := Aside0.mk H
    clear H
    go_upto_region 3 with (fail)
    go_cut [31] (fun v31 wc => ∃ (kq : Nat) (x31_6 : Bool), v31 = .bool x31_6 ∧ Aside0 (terrierref01_Get.j1 kq l0 a1 a2 x31_6 = some (r1, r2)) ∧ Aside0 (kq ≤ kj3) ∧ Drawn0 w wc)
    case first =>
     have H := HC7.out
     clear HC7
     by_cases c8 : a1 < 0
     ·
      rw [if_pos c8] at H
      have c8b0 : decide (a1 < 0) = true := decide_eq_true c8
      clear c8
      (first | rw [c8b0] | (simp only [i64_w, i32_w]; rw [c8b0]) | skip)
      have H' := Aside0.mk H
      clear H
      go_wp2
      go_meet
      case rel => exact ⟨_, (true), (by first | rfl | (simp; done) | (simp [*]; done)), H', ⟨by have := HJ3.out; first | omega | exact Nat.le_refl _⟩, by repeat (first | exact Drawn0.refl _ | apply Drawn0.step)⟩
     ·
      rw [if_neg c8] at H
      have c8b0 : decide (a1 < 0) = false := decide_eq_false c8
      clear c8
      (first | rw [c8b0] | (simp only [i64_w, i32_w]; rw [c8b0]) | skip)
      by_cases c9 : a1 > (l0.length : Int)
      ·
       rw [if_pos c9] at H
       have c9b0 : decide ((l0.length : Int) < a1) = true := decide_eq_true c9
       clear c9
       have H' := Aside0.mk H
       clear H
       go_wp2
       go_meet
       case rel => exact ⟨_, (true), (by first | rfl | (simp; done) | (simp [*]; done)), H', ⟨by have := HJ3.out; first | omega | exact Nat.le_refl _⟩, by repeat (first | exact Drawn0.refl _ | apply Drawn0.step)⟩
      ·
       rw [if_neg c9] at H
       have c9b0 : decide ((l0.length : Int) < a1) = false := decide_eq_false c9
       clear c9
       have H' := Aside0.mk H
       clear H
       go_wp2
       go_meet
       case rel => exact ⟨_, (decide ((wrap64 ((l0.length : Int) - a1)) < a2)), (by first | rfl | (simp; done) | (simp [*]; done)), H', ⟨by have := HJ3.out; first | omega | exact Nat.le_refl _⟩, by repeat (first | exact Drawn0.refl _ | apply Drawn0.step)⟩
    case rest =>
     clear HC7
     try clear p2
     try clear c3
     try clear c5
     try clear c5b0
     try clear c6
     try clear p6
     try clear c8
     try clear c8b0
     try clear c9
     try clear c9b0
     try clear p2
     obtain ⟨kq, x31_6, rfl, HA, HJ6, ⟨mc6, rfl⟩⟩ := hcut
     cases kq with
     | zero => exact absurd HA.out (by simp [terrierref01_Get.j1])
     | succ kj6 =>
      have H := HA.out
      clear HA
      simp only [terrierref01_Get.j1] at H
      by_cases c10 : x31_6 = true
      ·
       subst c10
       have H1 : (some (0, 3)) = some (r1, r2) := by rw [if_pos rfl] at H; exact H
       clear H
       have H := H1
       clear H1
       simp only [Option.some.injEq, Prod.mk.injEq] at H
       obtain ⟨rfl, rfl⟩ := H
       go_wp2
       go_ret2
       exact ⟨by first | rfl | (simp; done) | (simp [*]; done), by repeat (first | exact Drawn0.refl _ | apply Drawn0.step)⟩
      ·
       replace c10 := Bool.eq_false_iff.mpr c10
       subst c10
       have H1 : (terrierref01_Get.l0 kj6 l0 a1 a2 0 0) = some (r1, r2) := by rw [if_neg (show ¬ (false = true) by decide)] at H; exact H
       clear H
       have H := H1
       clear H1
       have H' := Aside0.mk H
       clear H
       go_wp2
       go_loopg [8, 9] kj6 (fun kq v8 v9 w' => ∃ (x8_3 : Int) (x9_3 : Int), v8 = .int .u64 x8_3 ∧ v9 = .int .i64 x9_3 ∧ Aside0 (terrierref01_Get.l0 kq l0 a1 a2 x8_3 x9_3 = some (r1, r2)) ∧ Aside0 (kq ≤ kj6) ∧ Drawn0 w w')
       case atStart => exact ⟨(0), (0), (by first | rfl | (simp; done) | (simp [*]; done)), (by first | rfl | (simp; done) | (simp [*]; done)), H', ⟨Nat.le_refl _⟩, by repeat (first | exact Drawn0.refl _ | apply Drawn0.step)⟩
       case round =>
        clear H'
        try clear c1
        try clear p2
        try clear c3
        try clear c5
        try clear c5b0
        try clear c6
        try clear p6
        try clear c8
        try clear c8b0
        try clear c9
        try clear c9b0
        try clear c10
        try clear p2
        try clear p6
        obtain ⟨x8_3, x9_3, rfl, rfl, HA, HK3, ⟨m3, rfl⟩⟩ := hrel
        cases gk with
        | zero => exact absurd HA.out (by simp [terrierref01_Get.l0])
        | succ k3 =>
         have H := HA.out
         clear HA
         simp only [terrierref01_Get.l0] at H
         by_cases c11 : x9_3 < a2
         ·
          rw [if_pos c11] at H
          have c11b0 : decide (x9_3 < a2) = true := decide_eq_true c11
          clear c11
          obtain ⟨ji12, hji12⟩ : ∃ j_ : Int, (wrap64 (a1 + x9_3)) = j_ := ⟨_, rfl⟩
          replace H : (if 0 ≤ (ji12) then (if (ji12) < (l0.length : Int) then (terrierref01_Get.l0 k3 l0 a1 a2 (IntKind.u64.wrap ((IntKind.u64.wrap (256 * x8_3)) + (IntKind.u64.wrap (rd l0 (ji12))))) (wrap64 (x9_3 + 1))) else (none)) else (none)) = some (r1, r2) := by first | (rw [hji12] at H; exact H) | (simp only [hji12] at H ⊢; exact H)
          have hji12w : (IntKind.i64.wrap (a1 + x9_3)) = ji12 := (i64_w _).trans hji12
          by_cases c13 : 0 ≤ (ji12)
          ·
           rw [if_pos c13] at H
           have c13b0 : decide (0 ≤ (ji12)) = true := decide_eq_true c13
           clear c13
           by_cases c14 : (ji12) < (l0.length : Int)
           ·
            rw [if_pos c14] at H
            have c14b0 : decide ((ji12) < (l0.length : Int)) = true := decide_eq_true c14
            clear c14
            have H' := Aside0.mk H
            clear H
            have p288 : 0 ≤ ((ji12) : Int) := of_decide_eq_true (by first | (with_reducible assumption) | assumption)
            have q288 : (ji12) < (l0.length : Int) := of_decide_eq_true (by first | (with_reducible assumption) | assumption)
            obtain ⟨ad288, e288, hx288_0⟩ := Kd.at_int HR0.out (ji12) p288 q288
            cases e288
            replace p288 := eq_true p288
            replace q288 := eq_true q288
            go_wp2
            go_roundg k3
            case measure => have := HJ3.out; have := HJ6.out; have := HK3.out; omega
            case rel => exact ⟨(IntKind.u64.wrap ((IntKind.u64.wrap (256 * x8_3)) + (IntKind.u64.wrap (rd l0 (ji12))))), (wrap64 (x9_3 + 1)), (by first | rfl | (simp; done) | (simp only [← hji12] <;> (first | rfl | simp)) | (simp [*]; done)), (by first | rfl | (simp; done) | (simp [*]; done)), H', ⟨by have := HJ3.out; have := HJ6.out; have := HK3.out; omega⟩, by repeat (first | exact Drawn0.refl _ | apply Drawn0.step)⟩
           · rw [if_neg c14] at H; exact absurd H (by simp)
          · rw [if_neg c13] at H; exact absurd H (by simp)
         ·
          rw [if_neg c11] at H
          have c11b0 : decide (x9_3 < a2) = false := decide_eq_false c11
          clear c11
          simp only [Option.some.injEq, Prod.mk.injEq] at H
          obtain ⟨rfl, rfl⟩ := H
          go_wp2
          go_ret2
          exact ⟨by first | rfl | (simp; done) | (simp [*]; done), by repeat (first | exact Drawn0.refl _ | apply Drawn0.step)⟩

/-- The three variables in memory (the result, m, n), the opened bytes, and what lies below. -/
def terrierref05_Decode.D (w W : World) (gO gM gN : Nat) (v : Value) (t : List Int) (m0 m1 m2 m3 n0 n1 n2 : Int) : Prop :=
  W.heap[gO]? = some (.cells #[.int .u64 0, .int .i64 0, .int .i64 0, .int .i64 0] 31 (0, 0)) ∧ W.heap[gM]? = some (.cells #[.int .u64 m0, .int .i64 m1, .int .i64 m2, .int .i64 m3] 31 (0, 0)) ∧ W.heap[gN]? = some (.cells #[.int .i64 n0, .int .i64 n1, .int .i64 n2] 51 (0, 0)) ∧ Kd.R (Kd.int .u8) 5 W w.heap.size (fun _ => True) v t ∧ Below w.heap.size w W ∧ w.heap.size ≤ gO ∧ w.heap.size ≤ gM ∧ w.heap.size ≤ gN ∧ gO ≠ gM
theorem terrierref05_Decode.far {W : World} {base g t' : Nat} {v : Value} {t : List Int} {cs : Array Value} (ho : Kd.R (Kd.int .u8) 5 W base (fun _ => True) v t) (hb : W.heap[g]? = some (.cells cs t' (0, 0))) (ht : ∀ q, q ∈ 5 :: (Kd.int .u8).E → q ≠ t') (j : Nat) (x : Value) : Kd.R (Kd.int .u8) 5 (W.setCell ⟨g, j, none⟩ x) base (fun _ => True) v t :=
  Kd.R_mono (Kd.R_far (p := ⟨g, j, none⟩) (Kd.R_types ho hb ht) (fun _ hk => hk.2) x) (fun _ _ => trivial : ∀ _, _ → True)
section
variable {w W W1 : World} {gO gM gN : Nat} {v : Value} {t : List Int} {m0 m1 m2 m3 n0 n1 n2 : Int}
theorem terrierref05_Decode.D.below (h : terrierref05_Decode.D w W gO gM gN v t m0 m1 m2 m3 n0 n1 n2) (hb : Below W.heap.size W W1) : terrierref05_Decode.D w W1 gO gM gN v t m0 m1 m2 m3 n0 n1 n2 := by
  obtain ⟨h1, h2, h3, h4, h5, h6⟩ := h
  exact ⟨blk_below h1 hb, blk_below h2 hb, blk_below h3 hb, Kd.R_below h4 hb, below_step h5 hb, h6⟩
theorem terrierref05_Decode.D.setN (h : terrierref05_Decode.D w W gO gM gN v t m0 m1 m2 m3 n0 n1 n2) (j : Nat) (x : Int) {n0' n1' n2' : Int} (e : (#[.int .i64 n0, .int .i64 n1, .int .i64 n2] : Array Value).setIfInBounds j (.int .i64 x) = #[.int .i64 n0', .int .i64 n1', .int .i64 n2']) : terrierref05_Decode.D w (W.setCell ⟨gN, j, none⟩ (.int .i64 x)) gO gM gN v t m0 m1 m2 m3 n0' n1' n2' := by
  obtain ⟨h1, h2, h3, h4, h5, h6, h7, h8, h9⟩ := h
  exact ⟨blk_far h1 (blk_ne h1 h3 (by decide)) _, blk_far h2 (blk_ne h2 h3 (by decide)) _, blk_put h3 j _ e, terrierref05_Decode.far h4 h3 (by decide) j _, below_set h5 h8, h6, h7, h8, h9⟩
theorem terrierref05_Decode.D.setM (h : terrierref05_Decode.D w W gO gM gN v t m0 m1 m2 m3 n0 n1 n2) (j : Nat) (x : Value) {m0' m1' m2' m3' : Int} (e : (#[.int .u64 m0, .int .i64 m1, .int .i64 m2, .int .i64 m3] : Array Value).setIfInBounds j x = #[.int .u64 m0', .int .i64 m1', .int .i64 m2', .int .i64 m3']) : terrierref05_Decode.D w (W.setCell ⟨gM, j, none⟩ x) gO gM gN v t m0' m1' m2' m3' n0 n1 n2 := by
  obtain ⟨h1, h2, h3, h4, h5, h6, h7, h8, h9⟩ := h
  exact ⟨blk_far h1 h9 _, blk_put h2 j _ e, blk_far h3 (blk_ne h3 h2 (by decide)) _, terrierref05_Decode.far h4 h2 (by decide) j _, below_set h5 h7, h6, h7, h8, h9⟩
theorem terrierref05_Decode.D.cells (h : terrierref05_Decode.D w W gO gM gN v t m0 m1 m2 m3 n0 n1 n2) : (W.cell? ⟨gM, 0, none⟩ = some (.int .u64 m0) ∧ W.cell? ⟨gM, 1, none⟩ = some (.int .i64 m1) ∧ W.cell? ⟨gM, 2, none⟩ = some (.int .i64 m2) ∧ W.cell? ⟨gM, 3, none⟩ = some (.int .i64 m3)) ∧ (W.cell? ⟨gN, 0, none⟩ = some (.int .i64 n0) ∧ W.cell? ⟨gN, 1, none⟩ = some (.int .i64 n1) ∧ W.cell? ⟨gN, 2, none⟩ = some (.int .i64 n2)) ∧ (∀ j, W.frozen? ⟨gM, j, none⟩ = false) ∧ (∀ j, W.frozen? ⟨gN, j, none⟩ = false) ∧ W.cell? ⟨gO, 0, none⟩ = some (.int .u64 0) ∧ W.cell? ⟨gO, 1, none⟩ = some (.int .i64 0) ∧ W.cell? ⟨gO, 2, none⟩ = some (.int .i64 0) ∧ W.cell? ⟨gO, 3, none⟩ = some (.int .i64 0) ∧ (∀ j, W.frozen? ⟨gO, j, none⟩ = false) := by
  obtain ⟨h1, h2, h3, _⟩ := h
  exact ⟨Ext.cells4 h2, ⟨(blk_cell h3 0).trans rfl, (blk_cell h3 1).trans rfl, (blk_cell h3 2).trans rfl⟩, fun j => blk_frozen h2 j, fun j => blk_frozen h3 j, (blk_cell h1 0).trans rfl, (blk_cell h1 1).trans rfl, (blk_cell h1 2).trans rfl, (blk_cell h1 3).trans rfl, fun j => blk_frozen h1 j⟩
theorem terrierref05_Decode.D.reads {A : Option Addr} {l c : Nat} (h : terrierref05_Decode.D w W gO gM gN (.slice A l c) t m0 m1 m2 m3 n0 n1 n2) : Kd.C (Kd.int .u8) W A t.length t ∧ t.length ≤ c := by
  obtain ⟨h1, h2, h3, h4, _⟩ := h
  obtain ⟨A', c', e⟩ := Kd.R_slice h4
  injection e with e1 e2 e3
  subst e1 e2 e3
  exact ⟨(Kd.R_reads' h4).2.2, (Kd.R_reads' h4).2.1⟩
end
def terrierref05_Decode.f (k : Nat) (l0 : List Int) : Option (Int × Int × Int × Int × Int) :=
  if (l0.length : Int) = 256 then ((terrierref02_Open.f k l0).bind fun t => if t.2 = 0 then
    ((terrierref01_Get.f k t.1 1 8).bind fun a => (terrierref01_Get.f k t.1 14 4).bind fun b => (terrierref01_Get.f k t.1 18 4).bind fun c => (terrierref01_Get.f k t.1 22 4).bind fun d =>
      (terrierref05_Right.f a.1 (wrap64 b.1) (wrap64 c.1) (wrap64 d.1)).bind fun r => if r = true then
        ((terrierref05_Encode.f k a.1 (wrap64 b.1) (wrap64 c.1) (wrap64 d.1)).bind fun e => (terrierref01_Same.f e l0).bind fun s => if s = true then some (a.1, wrap64 b.1, wrap64 c.1, wrap64 d.1, 0) else some (0, 0, 0, 0, 4))
      else some (0, 0, 0, 0, 4))
    else some (0, 0, 0, 0, t.2)) else some (0, 0, 0, 0, 4)
theorem terrierref05_Decode.mono : ∀ a0 k, LeO (terrierref05_Decode.f k a0) (terrierref05_Decode.f (k + 1) a0) := by
  intro a0 k
  unfold terrierref05_Decode.f
  repeat' first
    | (with_reducible exact terrierref02_Open.mono _ _)
    | (with_reducible exact terrierref01_Get.mono _ _ _ _)
    | (with_reducible exact terrierref05_Encode.mono _ _ _ _ _)
    | (with_reducible exact LeO.refl _)
    | (with_reducible exact LeO.none _)
    | (with_reducible refine LeO.ite ?_ ?_)
    | (with_reducible refine LeO.bind ?_ (fun _ => ?_))
    | exact LeO.none _
set_option maxHeartbeats 8000000 in
set_option maxRecDepth 100000 in
theorem terrierref05_Decode.calls (k : Nat) (A0 : Option Addr) (c0 : Nat) (l0 : List Int) (r1 : Int) (r2 : Int) (r3 : Int) (r4 : Int) (r5 : Int) (w : World) (hr0 : Kd.C (Kd.int .u8) w A0 l0.length l0) (hc0 : l0.length ≤ c0) (h : terrierref05_Decode.f k l0 = some (r1, r2, r3, r4, r5)) :
    Calls Try.prog 19 #[.slice A0 l0.length c0] w fun e w' => e = .returned (.tuple #[.agg #[.int .u64 r1, .int .i64 r2, .int .i64 r3, .int .i64 r4], .int .i64 r5]) ∧ Below w.heap.size w w' := by
  have hu31 := Try.underlying31
  have hu51 := Try.underlying51
  have HR0 := Aside0.mk hr0
  have HC0 := Aside0.mk hc0
  clear hr0 hc0
  unfold terrierref05_Decode.f at h
  by_cases c : (l0.length : Int) = 256
  case neg =>
    rw [if_neg c] at h
    simp only [Option.some.injEq, Prod.mk.injEq] at h
    obtain ⟨rfl, rfl, rfl, rfl, rfl⟩ := h
    have cb : ((l0.length : Int) != 256) = true := bne_iff_ne.mpr c
    clear c
    go_enter Try.func19, Try.ntmps19
    go_wp2_with ((with_reducible refine gate_dst (N := 2) rfl ?_); refine box_event ?hg (N := 2) ?hd (cs := #[.int .u64 0, .int .i64 0, .int .i64 0, .int .i64 0]) (t := 31) ?hr ?_; (case hd => rfl); (case hg => rfl); (case hr => first | (go_simp; done) | (go_simp; rfl)); intro gO hg w1 hbox hb; have HO1 := Aside0.mk hbox; have HB1 := Aside0.mk hb; have GO := Aside0.mk (Nat.le_of_eq hg.symm : w.heap.size ≤ gO); obtain ⟨co0, co1, co2, co3⟩ := Ext.cells4 hbox; obtain ⟨fo0, fo1, fo2, fo3⟩ := Ext.froz4 hbox; clear hg hbox hb)
    refine bodyPost_ret (results_ct rfl _ _ gO 31 #[.int .u64 0, .int .i64 0, .int .i64 0, .int .i64 0] (0, 0) _ rfl (Ext.puts4 HO1.out) Try.underlying31 rfl (by kernel_rfl)) rfl ?_
    exact ⟨rfl, below_set (below_set (below_set (below_set HB1.out GO.out) GO.out) GO.out) GO.out⟩
  rw [if_pos c] at h
  have cb : ((l0.length : Int) != 256) = false := bne_eq_false_iff_eq.mpr c
  clear c
  replace h := Option.bind_eq_some_iff.mp h
  obtain ⟨⟨t, te⟩, ht, h⟩ := h
  have HT := Aside0.mk ht
  clear ht
  dsimp only at h
  by_cases ce : te = 0
  case neg =>
    rw [if_neg ce] at h
    simp only [Option.some.injEq, Prod.mk.injEq] at h
    obtain ⟨rfl, rfl, rfl, rfl, rfl⟩ := h
    have eb : (te != 0) = true := bne_iff_ne.mpr ce
    clear ce
    go_enter Try.func19, Try.ntmps19
    go_wp2_with (first | ((with_reducible refine gate_dst (N := 2) rfl ?_); refine box_event ?hg (N := 2) ?hd (cs := #[.int .u64 0, .int .i64 0, .int .i64 0, .int .i64 0]) (t := 31) ?hr ?_; (case hd => rfl); (case hg => rfl); (case hr => first | (go_simp; done) | (go_simp; rfl)); intro gO hg w1 hbox hb; have HO1 := Aside0.mk hbox; have HB1 := Aside0.mk hb; have GO := Aside0.mk (Nat.le_of_eq hg.symm : w.heap.size ≤ gO); obtain ⟨co0, co1, co2, co3⟩ := Ext.cells4 hbox; obtain ⟨fo0, fo1, fo2, fo3⟩ := Ext.froz4 hbox; clear hg hbox hb) | (go_at_call 32; (with_reducible refine (terrierref02_Open.calls k _ _ l0 t _ _ ?s1 HC0.out HT.out).mono ?_); (case s1 => exact Kd.C_below HR0.out HB1.out); rintro e w2 ⟨v2, rfl, ho, hb⟩; obtain ⟨A2, c2, rfl⟩ := Kd.R_slice ho; have HT2 := Aside0.mk (Kd.R_lower ho (below_size HB1.out)); have HO2 := Aside0.mk (blk_below HO1.out hb); have HB2 := Aside0.mk (below_step HB1.out hb); clear ho hb HO1 HB1; clear co0 co1 co2 co3 fo0 fo1 fo2 fo3; obtain ⟨co0, co1, co2, co3⟩ := Ext.cells4 HO2.out; obtain ⟨fo0, fo1, fo2, fo3⟩ := Ext.froz4 HO2.out))
    refine bodyPost_ret (results_ct rfl _ _ gO 31 #[.int .u64 0, .int .i64 0, .int .i64 0, .int .i64 0] (0, 0) _ rfl (Ext.puts4 HO2.out) Try.underlying31 rfl (by kernel_rfl)) rfl ?_
    exact ⟨rfl, below_set (below_set (below_set (below_set HB2.out GO.out) GO.out) GO.out) GO.out⟩
  rw [if_pos ce] at h
  subst ce
  replace h := Option.bind_eq_some_iff.mp h
  obtain ⟨⟨a, ae⟩, ha, h⟩ := h
  have Ha := Aside0.mk ha
  clear ha
  dsimp only at h
  replace h := Option.bind_eq_some_iff.mp h
  obtain ⟨⟨b, be⟩, hb, h⟩ := h
  have Hb := Aside0.mk hb
  clear hb
  dsimp only at h
  replace h := Option.bind_eq_some_iff.mp h
  obtain ⟨⟨x, xe⟩, hx, h⟩ := h
  have Hx := Aside0.mk hx
  clear hx
  dsimp only at h
  replace h := Option.bind_eq_some_iff.mp h
  obtain ⟨⟨d, de⟩, hd, h⟩ := h
  have Hd := Aside0.mk hd
  clear hd
  dsimp only at h
  replace h := Option.bind_eq_some_iff.mp h
  obtain ⟨r, hr, h⟩ := h
  have Hr := Aside0.mk hr
  clear hr
  have H := Aside0.mk h
  clear h
  go_enter Try.func19, Try.ntmps19
  go_wp2_with (first | ((with_reducible refine gate_dst (N := 2) rfl ?_); refine box_event ?hg (N := 2) ?hd (cs := #[.int .u64 0, .int .i64 0, .int .i64 0, .int .i64 0]) (t := 31) ?hr ?_; (case hd => rfl); (case hg => rfl); (case hr => first | (go_simp; done) | (go_simp; rfl)); intro gO hg w1 hbox hb; have HO1 := Aside0.mk hbox; have HB1 := Aside0.mk hb; have GO := Aside0.mk (Nat.le_of_eq hg.symm : w.heap.size ≤ gO); obtain ⟨co0, co1, co2, co3⟩ := Ext.cells4 hbox; obtain ⟨fo0, fo1, fo2, fo3⟩ := Ext.froz4 hbox; clear hg hbox hb) | (go_at_call 32; (with_reducible refine (terrierref02_Open.calls k _ _ l0 t _ _ ?s1 HC0.out HT.out).mono ?_); (case s1 => exact Kd.C_below HR0.out HB1.out); rintro e w2 ⟨v2, rfl, ho, hb⟩; obtain ⟨A2, c2, rfl⟩ := Kd.R_slice ho; have HT2 := Aside0.mk (Kd.R_lower ho (below_size HB1.out)); have HO2 := Aside0.mk (blk_below HO1.out hb); have HB2 := Aside0.mk (below_step HB1.out hb); clear ho hb HO1 HB1; clear co0 co1 co2 co3 fo0 fo1 fo2 fo3; obtain ⟨co0, co1, co2, co3⟩ := Ext.cells4 HO2.out; obtain ⟨fo0, fo1, fo2, fo3⟩ := Ext.froz4 HO2.out) | ((with_reducible refine gate_dst (N := 6) rfl ?_); refine box_event ?hg (N := 6) ?hd (cs := #[.int .u64 0, .int .i64 0, .int .i64 0, .int .i64 0]) (t := 31) ?hr ?_; (case hd => rfl); (case hg => rfl); (case hr => first | (go_simp; done) | (go_simp; rfl)); intro gM hg w3 hbox hb; have HO3 := Aside0.mk (blk_below HO2.out hb); have HT3 := Aside0.mk (Kd.R_below HT2.out hb); have HB3 := Aside0.mk (below_step HB2.out hb); have HM3 := Aside0.mk hbox; have GM := Aside0.mk (by rw [hg]; exact below_size HB2.out : w.heap.size ≤ gM); have NE := Aside0.mk (by rw [hg]; exact Nat.ne_of_lt (blk_lt HO2.out) : gO ≠ gM); clear co0 co1 co2 co3 fo0 fo1 fo2 fo3; obtain ⟨cm0, cm1, cm2, cm3⟩ := Ext.cells4 hbox; obtain ⟨fm0, fm1, fm2, fm3⟩ := Ext.froz4 hbox; clear hg hbox hb HO2 HT2 HB2) | (go_at_call 33; (with_reducible refine (terrierref01_Get.calls k _ _ t 1 8 a ae _ ?s1 ?s2 Ha.out).mono ?_); (case s1 => exact (Kd.R_reads' (Ext.far4 HT3.out HM3.out (by decide) _ _ _ _)).2.2); (case s2 => exact (Kd.R_reads' HT3.out).2.1); rintro e w4 ⟨rfl, hd⟩; have hb := hd.below; have HO4 := Aside0.mk (blk_below (blk_far (blk_far (blk_far (blk_far HO3.out (p := ⟨gM, 0, none⟩) NE.out _) (p := ⟨gM, 1, none⟩) NE.out _) (p := ⟨gM, 2, none⟩) NE.out _) (p := ⟨gM, 3, none⟩) NE.out _) hb); have HM4 := Aside0.mk (blk_below (Ext.puts4 HM3.out) hb); have HT4 := Aside0.mk (Kd.R_mono (Kd.R_below (Ext.far4 HT3.out HM3.out (by decide) _ _ _ _) hb) (fun _ _ => trivial : ∀ _, _ → True)); have HB4 := Aside0.mk (below_step (below_set (below_set (below_set (below_set HB3.out GM.out) GM.out) GM.out) GM.out) hb); clear hd hb HO3 HT3 HM3 HB3 cm0 cm1 cm2 cm3 fm0 fm1 fm2 fm3; obtain ⟨cm0, cm1, cm2, cm3⟩ := Ext.cells4 HM4.out; obtain ⟨fm0, fm1, fm2, fm3⟩ := Ext.froz4 HM4.out) | ((with_reducible refine gate_dst (N := 7) rfl ?_); refine box_event ?hg (N := 7) ?hd (cs := #[.int .i64 0, .int .i64 0, .int .i64 0]) (t := 51) ?hr ?_; (case hd => rfl); (case hg => rfl); (case hr => first | (go_simp; done) | (go_simp; rfl)); intro gN hg w5 hbox hb; have HD5 := Aside0.mk (show terrierref05_Decode.D w w5 gO gM gN _ t a 0 0 0 0 0 0 from ⟨blk_below (blk_far HO4.out (p := ⟨gM, 0, none⟩) NE.out _) hb, blk_below (blk_put (cs' := #[.int .u64 a, .int .i64 0, .int .i64 0, .int .i64 0]) HM4.out 0 (.int .u64 a) rfl) hb, hbox, Kd.R_below (terrierref05_Decode.far HT4.out HM4.out (by decide) 0 _) hb, below_step (below_set HB4.out GM.out) hb, GO.out, GM.out, (by rw [hg]; exact below_size (below_set (g := gM) (j := 0) (v := .int .u64 a) HB4.out GM.out)), NE.out⟩); clear hg hbox hb HO4 HM4 HT4 HB4 cm0 cm1 cm2 cm3 fm0 fm1 fm2 fm3; have cn0 := (blk_cell HD5.out.2.2.1 0).trans rfl; have cn1 := (blk_cell HD5.out.2.2.1 1).trans rfl; have cn2 := (blk_cell HD5.out.2.2.1 2).trans rfl; have fn0 := blk_frozen HD5.out.2.2.1 0; have fn1 := blk_frozen HD5.out.2.2.1 1; have fn2 := blk_frozen HD5.out.2.2.1 2))
  have HD6 := Aside0.mk (((HD5.out.setN 0 0 rfl).setN 1 0 rfl).setN 2 0 rfl)
  clear HD5 cn0 cn1 cn2 fn0 fn1 fn2
  go_loopg [32] 3 (fun kq v32 w' => (kq = 3 ∧ v32 = .int .i64 0 ∧ Aside0 (terrierref05_Decode.D w w' gO gM gN (.slice A2 t.length c2) t a 0 0 0 0 0 0)) ∨ (kq = 2 ∧ v32 = .int .i64 1 ∧ Aside0 (terrierref05_Decode.D w w' gO gM gN (.slice A2 t.length c2) t a 0 0 0 (wrap64 b) 0 0)) ∨ (kq = 1 ∧ v32 = .int .i64 2 ∧ Aside0 (terrierref05_Decode.D w w' gO gM gN (.slice A2 t.length c2) t a 0 0 0 (wrap64 b) (wrap64 x) 0)) ∨ (kq = 0 ∧ v32 = .int .i64 3 ∧ Aside0 (terrierref05_Decode.D w w' gO gM gN (.slice A2 t.length c2) t a 0 0 0 (wrap64 b) (wrap64 x) (wrap64 d))))
  case atStart => exact .inl ⟨rfl, rfl, HD6⟩
  case round =>
    clear HD6
    rcases hrel with ⟨rfl, rfl, HD7⟩ | ⟨rfl, rfl, HD7⟩ | ⟨rfl, rfl, HD7⟩ | ⟨rfl, rfl, HD7⟩
    · obtain ⟨⟨cm0, cm1, cm2, cm3⟩, ⟨cn0, cn1, cn2⟩, fm, fn, co0, co1, co2, co3, fo⟩ := HD7.out.cells
      go_wp2_with (first | (go_at_call 33; (with_reducible refine (terrierref01_Get.calls k _ _ t 14 4 b be _ ?s1 ?s2 Hb.out).mono ?_); (case s1 => exact HD7.out.reads.1); (case s2 => exact HD7.out.reads.2); rintro e w8 ⟨rfl, hd⟩; have HD8 := Aside0.mk (HD7.out.below hd.below); clear hd HD7; clear cm0 cm1 cm2 cm3 cn0 cn1 cn2 fm fn co0 co1 co2 co3 fo; obtain ⟨⟨cm0, cm1, cm2, cm3⟩, ⟨cn0, cn1, cn2⟩, fm, fn, co0, co1, co2, co3, fo⟩ := HD8.out.cells))
      go_roundg 2
      case measure => omega
      case rel => exact .inr (.inl ⟨rfl, rfl, ⟨HD8.out.setN 0 (wrap64 b) rfl⟩⟩)
    · obtain ⟨⟨cm0, cm1, cm2, cm3⟩, ⟨cn0, cn1, cn2⟩, fm, fn, co0, co1, co2, co3, fo⟩ := HD7.out.cells
      go_wp2_with (first | (go_at_call 33; (with_reducible refine (terrierref01_Get.calls k _ _ t 18 4 x xe _ ?s1 ?s2 Hx.out).mono ?_); (case s1 => exact HD7.out.reads.1); (case s2 => exact HD7.out.reads.2); rintro e w8 ⟨rfl, hd⟩; have HD8 := Aside0.mk (HD7.out.below hd.below); clear hd HD7; clear cm0 cm1 cm2 cm3 cn0 cn1 cn2 fm fn co0 co1 co2 co3 fo; obtain ⟨⟨cm0, cm1, cm2, cm3⟩, ⟨cn0, cn1, cn2⟩, fm, fn, co0, co1, co2, co3, fo⟩ := HD8.out.cells))
      go_roundg 1
      case measure => omega
      case rel => exact .inr (.inr (.inl ⟨rfl, rfl, ⟨HD8.out.setN 1 (wrap64 x) rfl⟩⟩))
    · obtain ⟨⟨cm0, cm1, cm2, cm3⟩, ⟨cn0, cn1, cn2⟩, fm, fn, co0, co1, co2, co3, fo⟩ := HD7.out.cells
      go_wp2_with (first | (go_at_call 33; (with_reducible refine (terrierref01_Get.calls k _ _ t 22 4 d de _ ?s1 ?s2 Hd.out).mono ?_); (case s1 => exact HD7.out.reads.1); (case s2 => exact HD7.out.reads.2); rintro e w8 ⟨rfl, hd⟩; have HD8 := Aside0.mk (HD7.out.below hd.below); clear hd HD7; clear cm0 cm1 cm2 cm3 cn0 cn1 cn2 fm fn co0 co1 co2 co3 fo; obtain ⟨⟨cm0, cm1, cm2, cm3⟩, ⟨cn0, cn1, cn2⟩, fm, fn, co0, co1, co2, co3, fo⟩ := HD8.out.cells))
      go_roundg 0
      case measure => omega
      case rel => exact .inr (.inr (.inr ⟨rfl, rfl, ⟨HD8.out.setN 2 (wrap64 d) rfl⟩⟩))
    · have h := H.out
      clear H
      have hne1 : ¬ gM = gN := blk_ne HD7.out.2.1 HD7.out.2.2.1 (by decide)
      have hne2 : ¬ gN = gM := fun e => hne1 e.symm
      obtain ⟨⟨cm0, cm1, cm2, cm3⟩, ⟨cn0, cn1, cn2⟩, fm, fn, co0, co1, co2, co3, fo⟩ := HD7.out.cells
      cases r with
      | false =>
      rw [if_neg (by decide)] at h
      simp only [Option.some.injEq, Prod.mk.injEq] at h
      obtain ⟨rfl, rfl, rfl, rfl, rfl⟩ := h
      go_wp2_with (first | (go_at_call 11; (with_reducible refine (terrierref05_Right.calls a (wrap64 b) (wrap64 x) (wrap64 d) _ _ Hr.out).mono ?_); rintro e w9 ⟨rfl, hb⟩; have HD9 := Aside0.mk ((((HD7.out.setM (m0' := a) (m1' := wrap64 b) (m2' := 0) (m3' := 0) 1 (.int .i64 (wrap64 b)) rfl).setM (m0' := a) (m1' := wrap64 b) (m2' := wrap64 x) (m3' := 0) 2 (.int .i64 (wrap64 x)) rfl).setM (m0' := a) (m1' := wrap64 b) (m2' := wrap64 x) (m3' := wrap64 d) 3 (.int .i64 (wrap64 d)) rfl).below hb); clear hb HD7; clear cm0 cm1 cm2 cm3 cn0 cn1 cn2 fm fn co0 co1 co2 co3 fo; obtain ⟨⟨cm0, cm1, cm2, cm3⟩, ⟨cn0, cn1, cn2⟩, fm, fn, co0, co1, co2, co3, fo⟩ := HD9.out.cells))
      refine bodyPost_ret (results_ct rfl _ _ gO 31 #[.int .u64 0, .int .i64 0, .int .i64 0, .int .i64 0] (0, 0) _ rfl (Ext.puts4 HD9.out.1) Try.underlying31 rfl (by kernel_rfl)) rfl ?_
      exact ⟨rfl, below_set (below_set (below_set (below_set HD9.out.2.2.2.2.1 HD9.out.2.2.2.2.2.1) HD9.out.2.2.2.2.2.1) HD9.out.2.2.2.2.2.1) HD9.out.2.2.2.2.2.1⟩
      | true =>
      rw [if_pos rfl] at h
      replace h := Option.bind_eq_some_iff.mp h
      obtain ⟨e2, he, h⟩ := h
      have HE := Aside0.mk he
      clear he
      replace h := Option.bind_eq_some_iff.mp h
      obtain ⟨s, hs, h⟩ := h
      have HS := Aside0.mk hs
      clear hs
      cases s with
      | false =>
      rw [if_neg (by decide)] at h
      simp only [Option.some.injEq, Prod.mk.injEq] at h
      obtain ⟨rfl, rfl, rfl, rfl, rfl⟩ := h
      go_wp2_with (first | (go_at_call 11; (with_reducible refine (terrierref05_Right.calls a (wrap64 b) (wrap64 x) (wrap64 d) _ _ Hr.out).mono ?_); rintro e w9 ⟨rfl, hb⟩; have HD9 := Aside0.mk ((((HD7.out.setM (m0' := a) (m1' := wrap64 b) (m2' := 0) (m3' := 0) 1 (.int .i64 (wrap64 b)) rfl).setM (m0' := a) (m1' := wrap64 b) (m2' := wrap64 x) (m3' := 0) 2 (.int .i64 (wrap64 x)) rfl).setM (m0' := a) (m1' := wrap64 b) (m2' := wrap64 x) (m3' := wrap64 d) 3 (.int .i64 (wrap64 d)) rfl).below hb); clear hb HD7; clear cm0 cm1 cm2 cm3 cn0 cn1 cn2 fm fn co0 co1 co2 co3 fo; obtain ⟨⟨cm0, cm1, cm2, cm3⟩, ⟨cn0, cn1, cn2⟩, fm, fn, co0, co1, co2, co3, fo⟩ := HD9.out.cells) | (go_at_call 15; (with_reducible refine (terrierref05_Encode.calls k a (wrap64 b) (wrap64 x) (wrap64 d) e2 _ HE.out).mono ?_); rintro e w10 ⟨v10, rfl, ho, hb⟩; obtain ⟨A10, c10, rfl⟩ := Kd.R_slice ho; have HE10 := Aside0.mk ho; have HD10 := Aside0.mk (HD9.out.below hb); have hr10 := (Kd.R_reads' ho).2; clear ho hb HD9; have HR10 := Aside0.mk hr10; clear hr10; clear cm0 cm1 cm2 cm3 cn0 cn1 cn2 fm fn co0 co1 co2 co3 fo; obtain ⟨⟨cm0, cm1, cm2, cm3⟩, ⟨cn0, cn1, cn2⟩, fm, fn, co0, co1, co2, co3, fo⟩ := HD10.out.cells) | (go_at_call 14; (with_reducible refine (terrierref01_Same.calls _ _ e2 _ _ l0 false _ ?s1 ?s2 ?s3 HC0.out HS.out).mono ?_); (case s1 => exact HR10.out.2); (case s2 => exact HR10.out.1); (case s3 => exact Kd.C_below HR0.out HD10.out.2.2.2.2.1); rintro e w11 ⟨rfl, hd⟩; have HD11 := Aside0.mk (HD10.out.below hd.below); clear hd HD10; clear cm0 cm1 cm2 cm3 cn0 cn1 cn2 fm fn co0 co1 co2 co3 fo; obtain ⟨⟨cm0, cm1, cm2, cm3⟩, ⟨cn0, cn1, cn2⟩, fm, fn, co0, co1, co2, co3, fo⟩ := HD11.out.cells))
      refine bodyPost_ret (results_ct rfl _ _ gO 31 #[.int .u64 0, .int .i64 0, .int .i64 0, .int .i64 0] (0, 0) _ rfl (Ext.puts4 HD11.out.1) Try.underlying31 rfl (by kernel_rfl)) rfl ?_
      exact ⟨rfl, below_set (below_set (below_set (below_set HD11.out.2.2.2.2.1 HD11.out.2.2.2.2.2.1) HD11.out.2.2.2.2.2.1) HD11.out.2.2.2.2.2.1) HD11.out.2.2.2.2.2.1⟩
      | true =>
      rw [if_pos rfl] at h
      simp only [Option.some.injEq, Prod.mk.injEq] at h
      obtain ⟨rfl, rfl, rfl, rfl, rfl⟩ := h
      go_wp2_with (first | (go_at_call 11; (with_reducible refine (terrierref05_Right.calls a (wrap64 b) (wrap64 x) (wrap64 d) _ _ Hr.out).mono ?_); rintro e w9 ⟨rfl, hb⟩; have HD9 := Aside0.mk ((((HD7.out.setM (m0' := a) (m1' := wrap64 b) (m2' := 0) (m3' := 0) 1 (.int .i64 (wrap64 b)) rfl).setM (m0' := a) (m1' := wrap64 b) (m2' := wrap64 x) (m3' := 0) 2 (.int .i64 (wrap64 x)) rfl).setM (m0' := a) (m1' := wrap64 b) (m2' := wrap64 x) (m3' := wrap64 d) 3 (.int .i64 (wrap64 d)) rfl).below hb); clear hb HD7; clear cm0 cm1 cm2 cm3 cn0 cn1 cn2 fm fn co0 co1 co2 co3 fo; obtain ⟨⟨cm0, cm1, cm2, cm3⟩, ⟨cn0, cn1, cn2⟩, fm, fn, co0, co1, co2, co3, fo⟩ := HD9.out.cells) | (go_at_call 15; (with_reducible refine (terrierref05_Encode.calls k a (wrap64 b) (wrap64 x) (wrap64 d) e2 _ HE.out).mono ?_); rintro e w10 ⟨v10, rfl, ho, hb⟩; obtain ⟨A10, c10, rfl⟩ := Kd.R_slice ho; have HE10 := Aside0.mk ho; have HD10 := Aside0.mk (HD9.out.below hb); have hr10 := (Kd.R_reads' ho).2; clear ho hb HD9; have HR10 := Aside0.mk hr10; clear hr10; clear cm0 cm1 cm2 cm3 cn0 cn1 cn2 fm fn co0 co1 co2 co3 fo; obtain ⟨⟨cm0, cm1, cm2, cm3⟩, ⟨cn0, cn1, cn2⟩, fm, fn, co0, co1, co2, co3, fo⟩ := HD10.out.cells) | (go_at_call 14; (with_reducible refine (terrierref01_Same.calls _ _ e2 _ _ l0 true _ ?s1 ?s2 ?s3 HC0.out HS.out).mono ?_); (case s1 => exact HR10.out.2); (case s2 => exact HR10.out.1); (case s3 => exact Kd.C_below HR0.out HD10.out.2.2.2.2.1); rintro e w11 ⟨rfl, hd⟩; have HD11 := Aside0.mk (HD10.out.below hd.below); clear hd HD10; clear cm0 cm1 cm2 cm3 cn0 cn1 cn2 fm fn co0 co1 co2 co3 fo; obtain ⟨⟨cm0, cm1, cm2, cm3⟩, ⟨cn0, cn1, cn2⟩, fm, fn, co0, co1, co2, co3, fo⟩ := HD11.out.cells))
      refine bodyPost_ret (results_ct rfl _ _ gO 31 #[.int .u64 a, .int .i64 (wrap64 b), .int .i64 (wrap64 x), .int .i64 (wrap64 d)] (0, 0) _ rfl (Ext.puts4 HD11.out.1) Try.underlying31 rfl (by kernel_rfl)) rfl ?_
      exact ⟨rfl, below_set (below_set (below_set (below_set HD11.out.2.2.2.2.1 HD11.out.2.2.2.2.2.1) HD11.out.2.2.2.2.2.1) HD11.out.2.2.2.2.2.1) HD11.out.2.2.2.2.2.1⟩

end Go.Proofs.Ytfkihcdonddcoaa.PR
