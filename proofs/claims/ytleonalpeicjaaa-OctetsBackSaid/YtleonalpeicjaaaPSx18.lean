-- Written by wip/printx.py, a program of this work over the kit's print, for this claim.
import Derived.Test.YtleonalpeicjaaaPSx0
import Derived.Test.YtleonalpeicjaaaPSx5
import Derived.Test.YtleonalpeicjaaaPSx10
import Derived.Test.YtleonalpeicjaaaPSx14
import Derived.Test.YtleonalpeicjaaaPSx15
namespace Go.Proofs.Ytleonalpeicjaaa.PS
open Go.RowKit Go.Proofs.YtleonalpeicjaaaW.PrintWords Go.Proofs.YtleonalpeicjaaaW.PrintLast Go.Proofs.YtleonalpeicjaaaW.PrintMore
attribute [local go_sem] max2_int min2_int max_two min_two max_three min_three max_four min_four   -- for this text's walks alone
attribute [local go_sem] Ext.pick_u8 Ext.pick_u32 Ext.pick_u64
set_option linter.unusedVariables false
set_option linter.unusedSimpArgs false

/-! ### terrierlaw01_OctetsBack: function 7 -/
mutual
def terrierlaw01_OctetsBack.j0 : Nat → Int → Int → Int → List Int → List Int → Bool → Option (Bool)
  | 0, _, _, _, _, _, _ => none
  | k + 1, x0, x1, x2, x3, x4, x31 => if x31 = true then (some true) else ((octets_Put.f k x0 x2).bind fun bt239 => ((octets_Put.f k x1 x2).bind fun bt243 => (if bt239.2 = 0 then ((terrierref01_Twin.f x3).bind fun t247 => (if t247.length + bt239.1.length < 140737488355328 then ((some (t247 ++ bt239.1 : List Int)).bind fun y250 => (if y250.length + x4.length < 140737488355328 then ((octets_Get.f k (y250 ++ x4) (x3.length : Int) x2).bind fun bt256 => (if bt256.2 = 0 then (if bt256.1 = x0 then (terrierlaw01_OctetsBack.j1 k x0 x1 x2 bt239.1 bt239.2 bt243.1 bt243.2 ((bt239.1.length : Int) != x2)) else (terrierlaw01_OctetsBack.j1 k x0 x1 x2 bt239.1 bt239.2 bt243.1 bt243.2 true)) else (terrierlaw01_OctetsBack.j1 k x0 x1 x2 bt239.1 bt239.2 bt243.1 bt243.2 true))) else (none))) else (none))) else (some (decide (x2 < 8))))))
def terrierlaw01_OctetsBack.j1 : Nat → Int → Int → Int → List Int → Int → List Int → Int → Bool → Option (Bool)
  | 0, _, _, _, _, _, _, _, _ => none
  | k + 1, x0, x1, x2, x11, x12, x13, x14, x72 => if x72 = true then (some false) else (if x12 = 0 then (if x14 = 0 then ((octets_Compare.f x11 x13).bind fun t258 => (if ((decide (t258 < 0)) == (decide (x0 < x1))) = true then (some ((t258 == 0) == (x0 == x1))) else (some false))) else (some (decide (x2 < 8)))) else (some (decide (x2 < 8))))
end
def terrierlaw01_OctetsBack.f (k : Nat) (a0 : Int) (a1 : Int) (a2 : Int) (l3 : List Int) (l4 : List Int) : Option (Bool) := if (l3.length : Int) > 1000 then (terrierlaw01_OctetsBack.j0 k a0 a1 (wrap64 (1 + (wrap64 (Int.tmod (IntKind.u64.wrap (a2)) 8)))) l3 l4 true) else (terrierlaw01_OctetsBack.j0 k a0 a1 (wrap64 (1 + (wrap64 (Int.tmod (IntKind.u64.wrap (a2)) 8)))) l3 l4 (decide ((l4.length : Int) > 1000)))
theorem terrierlaw01_OctetsBack.mono_l : ∀ k, (∀ y0 y1 y2 y3 y4 y5, LeO (terrierlaw01_OctetsBack.j0 k y0 y1 y2 y3 y4 y5) (terrierlaw01_OctetsBack.j0 (k + 1) y0 y1 y2 y3 y4 y5)) ∧ (∀ y0 y1 y2 y3 y4 y5 y6 y7, LeO (terrierlaw01_OctetsBack.j1 k y0 y1 y2 y3 y4 y5 y6 y7) (terrierlaw01_OctetsBack.j1 (k + 1) y0 y1 y2 y3 y4 y5 y6 y7))
  | 0 => ⟨fun _ _ _ _ _ _ r h => by simp [terrierlaw01_OctetsBack.j0] at h, fun _ _ _ _ _ _ _ _ r h => by simp [terrierlaw01_OctetsBack.j1] at h⟩
  | k + 1 => by
    obtain ⟨ih0, ih1⟩ := terrierlaw01_OctetsBack.mono_l k
    refine ⟨?_, ?_⟩
    · intro y0 y1 y2 y3 y4 y5
      unfold terrierlaw01_OctetsBack.j0
      repeat' first
      | (with_reducible exact ih0 _ _ _ _ _ _)
      | (with_reducible exact ih1 _ _ _ _ _ _ _ _)
      | (with_reducible exact octets_Get.mono _ _ _ _)
      | (with_reducible exact octets_Put.mono _ _ _)
      | (with_reducible exact LeO.refl _)
      | (with_reducible exact LeO.none _)
      | (with_reducible refine LeO.ite ?_ ?_)
      | (with_reducible refine LeO.bind ?_ (fun _ => ?_))
      | exact ih0 _ _ _ _ _ _
      | exact ih1 _ _ _ _ _ _ _ _
      | exact octets_Get.mono _ _ _ _
      | exact octets_Put.mono _ _ _
      | exact LeO.none _
      | refine LeO.ite ?_ ?_
      | refine LeO.bind ?_ (fun _ => ?_)
    · intro y0 y1 y2 y3 y4 y5 y6 y7
      unfold terrierlaw01_OctetsBack.j1
      repeat' first
      | (with_reducible exact ih0 _ _ _ _ _ _)
      | (with_reducible exact ih1 _ _ _ _ _ _ _ _)
      | (with_reducible exact octets_Get.mono _ _ _ _)
      | (with_reducible exact octets_Put.mono _ _ _)
      | (with_reducible exact LeO.refl _)
      | (with_reducible exact LeO.none _)
      | (with_reducible refine LeO.ite ?_ ?_)
      | (with_reducible refine LeO.bind ?_ (fun _ => ?_))
      | exact ih0 _ _ _ _ _ _
      | exact ih1 _ _ _ _ _ _ _ _
      | exact octets_Get.mono _ _ _ _
      | exact octets_Put.mono _ _ _
      | exact LeO.none _
      | refine LeO.ite ?_ ?_
      | refine LeO.bind ?_ (fun _ => ?_)
theorem terrierlaw01_OctetsBack.mono : ∀ a0 a1 a2 a3 a4 k, LeO (terrierlaw01_OctetsBack.f k a0 a1 a2 a3 a4) (terrierlaw01_OctetsBack.f (k + 1) a0 a1 a2 a3 a4) := by
  intro a0 a1 a2 a3 a4 k
  obtain ⟨ih0, ih1⟩ := terrierlaw01_OctetsBack.mono_l k
  unfold terrierlaw01_OctetsBack.f
  repeat' first
      | (with_reducible exact ih0 _ _ _ _ _ _)
      | (with_reducible exact ih1 _ _ _ _ _ _ _ _)
      | (with_reducible exact octets_Get.mono _ _ _ _)
      | (with_reducible exact octets_Put.mono _ _ _)
      | (with_reducible exact LeO.refl _)
      | (with_reducible exact LeO.none _)
      | (with_reducible refine LeO.ite ?_ ?_)
      | (with_reducible refine LeO.bind ?_ (fun _ => ?_))
      | exact ih0 _ _ _ _ _ _
      | exact ih1 _ _ _ _ _ _ _ _
      | exact octets_Get.mono _ _ _ _
      | exact octets_Put.mono _ _ _
      | exact LeO.none _
      | refine LeO.ite ?_ ?_
      | refine LeO.bind ?_ (fun _ => ?_)
set_option maxHeartbeats 8000000 in
set_option maxRecDepth 100000 in
theorem terrierlaw01_OctetsBack.calls (k : Nat) (a0 : Int) (a1 : Int) (a2 : Int) (A3 : Option Addr) (c3 : Nat) (l3 : List Int) (A4 : Option Addr) (c4 : Nat) (l4 : List Int) (r : Bool) (w : World) (hr3 : Kd.C (Kd.int .u8) w A3 l3.length l3) (hc3 : l3.length ≤ c3) (hr4 : Kd.C (Kd.int .u8) w A4 l4.length l4) (hc4 : l4.length ≤ c4) (h : terrierlaw01_OctetsBack.f k a0 a1 a2 l3 l4 = some r) :
    Calls Try.prog 7 #[.int .u64 a0, .int .u64 a1, .int .i64 a2, .slice A3 l3.length c3, .slice A4 l4.length c4] w fun e w' => e = .returned (.bool r) ∧ Below w.heap.size w w' := by
  have HR3 := Aside0.mk hr3
  have HC3 := Aside0.mk hc3
  clear hr3 hc3
  have HR4 := Aside0.mk hr4
  have HC4 := Aside0.mk hc4
  clear hr4 hc4
  have HB := Aside0.mk (Below.refl w.heap.size w)
  have H : (if (l3.length : Int) > 1000 then (terrierlaw01_OctetsBack.j0 k a0 a1 (wrap64 (1 + (wrap64 (Int.tmod (IntKind.u64.wrap (a2)) 8)))) l3 l4 true) else (terrierlaw01_OctetsBack.j0 k a0 a1 (wrap64 (1 + (wrap64 (Int.tmod (IntKind.u64.wrap (a2)) 8)))) l3 l4 (decide ((l4.length : Int) > 1000)))) = some r := h
  clear h
  have HC6 := Aside0.mk H
  clear H
  go_enter Try.func7, Try.ntmps7
  go_upto_region 2 with (fail)
  go_cut [31] (fun v31 wc => ∃ (kq : Nat) (x31_5 : Bool), v31 = .bool x31_5 ∧ Aside0 (terrierlaw01_OctetsBack.j0 kq a0 a1 (wrap64 (1 + (wrap64 (Int.tmod (IntKind.u64.wrap (a2)) 8)))) l3 l4 x31_5 = some r) ∧ Aside0 (kq ≤ k) ∧ Aside0 (Below w.heap.size w wc))
  case first =>
    have H := HC6.out
    clear HC6
    by_cases c7 : (l3.length : Int) > 1000
    · rw [if_pos c7] at H
      have c7b0 : decide (1000 < (l3.length : Int)) = true := decide_eq_true c7
      have c7b1 : decide (1000 < l3.length) = true := decide_eq_true (by omega)
      clear c7
      (first | rw [c7b0] | (simp only [i64_w, i32_w]; rw [c7b0]) | skip)
      have H' := Aside0.mk H
      clear H
      go_wp2
      go_meet
      case rel => exact ⟨_, (true), (by first | rfl | (simp; done) | (simp [*]; done)), H', ⟨by first | omega | exact Nat.le_refl _⟩, ⟨by repeat (first | (with_reducible first | exact HB.out | apply below_alloc | apply pw_below_drewN | apply below_drew1) | exact HB.out | exact Below.refl _ _)⟩⟩
    · rw [if_neg c7] at H
      have c7b0 : decide (1000 < (l3.length : Int)) = false := decide_eq_false c7
      have c7b1 : decide (1000 < l3.length) = false := decide_eq_false (by omega)
      clear c7
      (first | rw [c7b0] | (simp only [i64_w, i32_w]; rw [c7b0]) | skip)
      have H' := Aside0.mk H
      clear H
      go_wp2
      go_meet
      case rel => exact ⟨_, (decide ((l4.length : Int) > 1000)), (by first | rfl | (simp; done) | (simp [*]; done)), H', ⟨by first | omega | exact Nat.le_refl _⟩, ⟨by repeat (first | (with_reducible first | exact HB.out | apply below_alloc | apply pw_below_drewN | apply below_drew1) | exact HB.out | exact Below.refl _ _)⟩⟩
  case rest =>
    clear HC6
    try clear p2
    try clear c3
    try clear c4
    try clear p6
    try clear c7
    try clear c7b0
    try clear c7b1
    obtain ⟨kq, x31_5, rfl, HA, HJ5, HB⟩ := hcut
    cases kq with
    | zero => exact absurd HA.out (by simp [terrierlaw01_OctetsBack.j0])
    | succ kj5 =>
      have H := HA.out
      clear HA
      simp only [terrierlaw01_OctetsBack.j0] at H
      by_cases c8 : x31_5 = true
      · subst c8
        have H1 : (some true) = some r := by rw [if_pos rfl] at H; exact H
        clear H
        have H := H1
        clear H1
        obtain rfl := Option.some.inj H
        go_wp2
        go_ret
        exact ⟨by first | rfl | (simp [errW_none, errW_some] <;> rfl) | (simp [*, errW_none, errW_some] <;> rfl), by repeat (first | (with_reducible first | exact HB.out | apply below_alloc | apply pw_below_drewN | apply below_drew1) | exact HB.out | exact Below.refl _ _)⟩
      · replace c8 := Bool.eq_false_iff.mpr c8
        subst c8
        have H1 : ((octets_Put.f kj5 a0 (wrap64 (1 + (wrap64 (Int.tmod (IntKind.u64.wrap (a2)) 8))))).bind fun bt239 => ((octets_Put.f kj5 a1 (wrap64 (1 + (wrap64 (Int.tmod (IntKind.u64.wrap (a2)) 8))))).bind fun bt243 => (if bt239.2 = 0 then ((terrierref01_Twin.f l3).bind fun t247 => (if t247.length + bt239.1.length < 140737488355328 then ((some (t247 ++ bt239.1 : List Int)).bind fun y250 => (if y250.length + l4.length < 140737488355328 then ((octets_Get.f kj5 (y250 ++ l4) (l3.length : Int) (wrap64 (1 + (wrap64 (Int.tmod (IntKind.u64.wrap (a2)) 8))))).bind fun bt256 => (if bt256.2 = 0 then (if bt256.1 = a0 then (terrierlaw01_OctetsBack.j1 kj5 a0 a1 (wrap64 (1 + (wrap64 (Int.tmod (IntKind.u64.wrap (a2)) 8)))) bt239.1 bt239.2 bt243.1 bt243.2 ((bt239.1.length : Int) != (wrap64 (1 + (wrap64 (Int.tmod (IntKind.u64.wrap (a2)) 8)))))) else (terrierlaw01_OctetsBack.j1 kj5 a0 a1 (wrap64 (1 + (wrap64 (Int.tmod (IntKind.u64.wrap (a2)) 8)))) bt239.1 bt239.2 bt243.1 bt243.2 true)) else (terrierlaw01_OctetsBack.j1 kj5 a0 a1 (wrap64 (1 + (wrap64 (Int.tmod (IntKind.u64.wrap (a2)) 8)))) bt239.1 bt239.2 bt243.1 bt243.2 true))) else (none))) else (none))) else (some (decide ((wrap64 (1 + (wrap64 (Int.tmod (IntKind.u64.wrap (a2)) 8)))) < 8)))))) = some r := by rw [if_neg (show ¬ (false = true) by decide)] at H; exact H
        clear H
        have H := H1
        clear H1
        replace H := Option.bind_eq_some_iff.mp H
        obtain ⟨⟨t239, t240⟩, A90, H⟩ := H
        replace H : ((octets_Put.f kj5 a1 (wrap64 (1 + (wrap64 (Int.tmod (IntKind.u64.wrap (a2)) 8))))).bind fun bt243 => (if t240 = 0 then ((terrierref01_Twin.f l3).bind fun t247 => (if t247.length + t239.length < 140737488355328 then ((some (t247 ++ t239 : List Int)).bind fun y250 => (if y250.length + l4.length < 140737488355328 then ((octets_Get.f kj5 (y250 ++ l4) (l3.length : Int) (wrap64 (1 + (wrap64 (Int.tmod (IntKind.u64.wrap (a2)) 8))))).bind fun bt256 => (if bt256.2 = 0 then (if bt256.1 = a0 then (terrierlaw01_OctetsBack.j1 kj5 a0 a1 (wrap64 (1 + (wrap64 (Int.tmod (IntKind.u64.wrap (a2)) 8)))) t239 t240 bt243.1 bt243.2 ((t239.length : Int) != (wrap64 (1 + (wrap64 (Int.tmod (IntKind.u64.wrap (a2)) 8)))))) else (terrierlaw01_OctetsBack.j1 kj5 a0 a1 (wrap64 (1 + (wrap64 (Int.tmod (IntKind.u64.wrap (a2)) 8)))) t239 t240 bt243.1 bt243.2 true)) else (terrierlaw01_OctetsBack.j1 kj5 a0 a1 (wrap64 (1 + (wrap64 (Int.tmod (IntKind.u64.wrap (a2)) 8)))) t239 t240 bt243.1 bt243.2 true))) else (none))) else (none))) else (some (decide ((wrap64 (1 + (wrap64 (Int.tmod (IntKind.u64.wrap (a2)) 8)))) < 8))))) = some r := H
        have A9 := Aside0.mk A90
        clear A90
        replace H := Option.bind_eq_some_iff.mp H
        obtain ⟨⟨t243, t244⟩, A100, H⟩ := H
        replace H : (if t240 = 0 then ((terrierref01_Twin.f l3).bind fun t247 => (if t247.length + t239.length < 140737488355328 then ((some (t247 ++ t239 : List Int)).bind fun y250 => (if y250.length + l4.length < 140737488355328 then ((octets_Get.f kj5 (y250 ++ l4) (l3.length : Int) (wrap64 (1 + (wrap64 (Int.tmod (IntKind.u64.wrap (a2)) 8))))).bind fun bt256 => (if bt256.2 = 0 then (if bt256.1 = a0 then (terrierlaw01_OctetsBack.j1 kj5 a0 a1 (wrap64 (1 + (wrap64 (Int.tmod (IntKind.u64.wrap (a2)) 8)))) t239 t240 t243 t244 ((t239.length : Int) != (wrap64 (1 + (wrap64 (Int.tmod (IntKind.u64.wrap (a2)) 8)))))) else (terrierlaw01_OctetsBack.j1 kj5 a0 a1 (wrap64 (1 + (wrap64 (Int.tmod (IntKind.u64.wrap (a2)) 8)))) t239 t240 t243 t244 true)) else (terrierlaw01_OctetsBack.j1 kj5 a0 a1 (wrap64 (1 + (wrap64 (Int.tmod (IntKind.u64.wrap (a2)) 8)))) t239 t240 t243 t244 true))) else (none))) else (none))) else (some (decide ((wrap64 (1 + (wrap64 (Int.tmod (IntKind.u64.wrap (a2)) 8)))) < 8)))) = some r := H
        have A10 := Aside0.mk A100
        clear A100
        by_cases c11 : t240 = 0
        · rw [if_pos c11] at H
          have c11b0 : (t240 == 0) = true := beq_iff_eq.mpr c11
          have c11b1 : (t240 != 0) = false := bne_eq_false_iff_eq.mpr c11
          clear c11
          replace H := Option.bind_eq_some_iff.mp H
          obtain ⟨t247, A120, H⟩ := H
          replace H : (if t247.length + t239.length < 140737488355328 then ((some (t247 ++ t239 : List Int)).bind fun y250 => (if y250.length + l4.length < 140737488355328 then ((octets_Get.f kj5 (y250 ++ l4) (l3.length : Int) (wrap64 (1 + (wrap64 (Int.tmod (IntKind.u64.wrap (a2)) 8))))).bind fun bt256 => (if bt256.2 = 0 then (if bt256.1 = a0 then (terrierlaw01_OctetsBack.j1 kj5 a0 a1 (wrap64 (1 + (wrap64 (Int.tmod (IntKind.u64.wrap (a2)) 8)))) t239 t240 t243 t244 ((t239.length : Int) != (wrap64 (1 + (wrap64 (Int.tmod (IntKind.u64.wrap (a2)) 8)))))) else (terrierlaw01_OctetsBack.j1 kj5 a0 a1 (wrap64 (1 + (wrap64 (Int.tmod (IntKind.u64.wrap (a2)) 8)))) t239 t240 t243 t244 true)) else (terrierlaw01_OctetsBack.j1 kj5 a0 a1 (wrap64 (1 + (wrap64 (Int.tmod (IntKind.u64.wrap (a2)) 8)))) t239 t240 t243 t244 true))) else (none))) else (none)) = some r := H
          have A12 := Aside0.mk A120
          clear A120
          by_cases c13 : t247.length + t239.length < 140737488355328
          · rw [if_pos c13] at H
            have LMc13 := Aside0.mk c13
            clear c13
            obtain ⟨y250, hy250⟩ : ∃ y_ : List Int, y_ = (t247 ++ t239) := ⟨_, rfl⟩
            replace H : (if y250.length + l4.length < 140737488355328 then ((octets_Get.f kj5 (y250 ++ l4) (l3.length : Int) (wrap64 (1 + (wrap64 (Int.tmod (IntKind.u64.wrap (a2)) 8))))).bind fun bt256 => (if bt256.2 = 0 then (if bt256.1 = a0 then (terrierlaw01_OctetsBack.j1 kj5 a0 a1 (wrap64 (1 + (wrap64 (Int.tmod (IntKind.u64.wrap (a2)) 8)))) t239 t240 t243 t244 ((t239.length : Int) != (wrap64 (1 + (wrap64 (Int.tmod (IntKind.u64.wrap (a2)) 8)))))) else (terrierlaw01_OctetsBack.j1 kj5 a0 a1 (wrap64 (1 + (wrap64 (Int.tmod (IntKind.u64.wrap (a2)) 8)))) t239 t240 t243 t244 true)) else (terrierlaw01_OctetsBack.j1 kj5 a0 a1 (wrap64 (1 + (wrap64 (Int.tmod (IntKind.u64.wrap (a2)) 8)))) t239 t240 t243 t244 true))) else (none)) = some r := by first | (rw [hy250]; with_reducible exact H) | (have H2_ := (Option.bind_some _ _).symm.trans H; rw [hy250]; with_reducible exact H2_) | (have H2_ := (Option.bind_some _ _).symm.trans H; with_reducible exact H2_) | with_reducible exact H | (rw [hy250]; exact H) | exact H
            have Ny250 := Aside0.mk hy250
            clear hy250
            by_cases c14 : y250.length + l4.length < 140737488355328
            · rw [if_pos c14] at H
              have LMc14 := Aside0.mk c14
              clear c14
              obtain ⟨y253, hy253⟩ : ∃ y_ : List Int, y_ = (y250 ++ l4) := ⟨_, rfl⟩
              replace H : ((octets_Get.f kj5 y253 (l3.length : Int) (wrap64 (1 + (wrap64 (Int.tmod (IntKind.u64.wrap (a2)) 8))))).bind fun bt256 => (if bt256.2 = 0 then (if bt256.1 = a0 then (terrierlaw01_OctetsBack.j1 kj5 a0 a1 (wrap64 (1 + (wrap64 (Int.tmod (IntKind.u64.wrap (a2)) 8)))) t239 t240 t243 t244 ((t239.length : Int) != (wrap64 (1 + (wrap64 (Int.tmod (IntKind.u64.wrap (a2)) 8)))))) else (terrierlaw01_OctetsBack.j1 kj5 a0 a1 (wrap64 (1 + (wrap64 (Int.tmod (IntKind.u64.wrap (a2)) 8)))) t239 t240 t243 t244 true)) else (terrierlaw01_OctetsBack.j1 kj5 a0 a1 (wrap64 (1 + (wrap64 (Int.tmod (IntKind.u64.wrap (a2)) 8)))) t239 t240 t243 t244 true))) = some r := by first | (rw [hy253]; with_reducible exact H) | (have H2_ := (Option.bind_some _ _).symm.trans H; rw [hy253]; with_reducible exact H2_) | (have H2_ := (Option.bind_some _ _).symm.trans H; with_reducible exact H2_) | with_reducible exact H | (rw [hy253]; exact H) | exact H
              have Ny253 := Aside0.mk hy253
              clear hy253
              replace H := Option.bind_eq_some_iff.mp H
              obtain ⟨⟨t256, t257⟩, A150, H⟩ := H
              replace H : (if t257 = 0 then (if t256 = a0 then (terrierlaw01_OctetsBack.j1 kj5 a0 a1 (wrap64 (1 + (wrap64 (Int.tmod (IntKind.u64.wrap (a2)) 8)))) t239 t240 t243 t244 ((t239.length : Int) != (wrap64 (1 + (wrap64 (Int.tmod (IntKind.u64.wrap (a2)) 8)))))) else (terrierlaw01_OctetsBack.j1 kj5 a0 a1 (wrap64 (1 + (wrap64 (Int.tmod (IntKind.u64.wrap (a2)) 8)))) t239 t240 t243 t244 true)) else (terrierlaw01_OctetsBack.j1 kj5 a0 a1 (wrap64 (1 + (wrap64 (Int.tmod (IntKind.u64.wrap (a2)) 8)))) t239 t240 t243 t244 true)) = some r := H
              have A15 := Aside0.mk A150
              clear A150
              have HC16 := Aside0.mk H
              clear H
              go_upto_region 9 with (first | ((with_reducible refine gate_callee (f := 16) rfl ?_); refine goesL_ (some 35) rfl rfl Try.func16 (by kernel_rfl) rfl #[.int .u64 a0, .int .i64 (wrap64 (1 + (wrap64 (Int.tmod (IntKind.u64.wrap (a2)) 8))))] rfl (by (try simp only [List.map_toArray, List.map_cons, List.map_nil]); first | done | rfl | (simp only [List.length_drop, List.length_take]; rfl)) ?_; (with_reducible refine (octets_Put.calls kj5 a0 (wrap64 (1 + (wrap64 (Int.tmod (IntKind.u64.wrap (a2)) 8)))) t239 t240 _ A9.out).mono ?_); rintro e w17 ⟨v241, rfl, ho0, hb⟩; refine ⟨_, rfl, ?_⟩; have n0_ := Aside0.mk (Kd.R_lower ho0 (below_size (by repeat (first | (with_reducible first | exact HB.out | apply below_alloc | apply pw_below_drewN | apply below_drew1) | exact HB.out | exact Below.refl _ _)))); have n1_ := Aside0.mk (below_step (by repeat (first | (with_reducible first | exact HB.out | apply below_alloc | apply pw_below_drewN | apply below_drew1) | exact HB.out | exact Below.refl _ _)) hb); clear HB; have HO242 := n0_; have HB := n1_; clear n0_ n1_; (try clear hb); (try clear hb2); (try clear hk); (try clear hi); (try clear ho0)) | ((with_reducible refine gate_callee (f := 16) rfl ?_); refine goesL_ (some 41) rfl rfl Try.func16 (by kernel_rfl) rfl #[.int .u64 a1, .int .i64 (wrap64 (1 + (wrap64 (Int.tmod (IntKind.u64.wrap (a2)) 8))))] rfl (by (try simp only [List.map_toArray, List.map_cons, List.map_nil]); first | done | rfl | (simp only [List.length_drop, List.length_take]; rfl)) ?_; (with_reducible refine (octets_Put.calls kj5 a1 (wrap64 (1 + (wrap64 (Int.tmod (IntKind.u64.wrap (a2)) 8)))) t243 t244 _ A10.out).mono ?_); rintro e w18 ⟨v245, rfl, ho0, hb⟩; refine ⟨_, rfl, ?_⟩; have n0_ := Aside0.mk (Kd.R_elder' (by (with_reducible repeat (first | apply Kd.R_alloc | apply Kd.R_drewN | apply Kd.R_drew)); exact HO242.out) (Kd.R_base ho0) hb); have n1_ := Aside0.mk (Kd.R_lower (Kd.R_new' ho0 (Kd.R_lt (by (with_reducible repeat (first | apply Kd.R_alloc | apply Kd.R_drewN | apply Kd.R_drew)); exact HO242.out))) (below_size (by repeat (first | (with_reducible first | exact HB.out | apply below_alloc | apply pw_below_drewN | apply below_drew1) | exact HB.out | exact Below.refl _ _)))); have n2_ := Aside0.mk (below_step (by repeat (first | (with_reducible first | exact HB.out | apply below_alloc | apply pw_below_drewN | apply below_drew1) | exact HB.out | exact Below.refl _ _)) hb); clear HO242; clear HB; have HO242 := n0_; have HO246 := n1_; have HB := n2_; clear n0_ n1_ n2_; (try clear hb); (try clear hb2); (try clear hk); (try clear hi); (try clear ho0)) | ((with_reducible refine gate_callee (f := 19) rfl ?_); refine goesL_ (some 47) rfl rfl Try.func19 (by kernel_rfl) rfl #[.slice A3 l3.length c3] rfl (by (try simp only [List.map_toArray, List.map_cons, List.map_nil]); first | done | rfl | (simp only [List.length_drop, List.length_take]; rfl)) ?_; (with_reducible refine (terrierref01_Twin.calls _ _ l3 t247 _ ?side1 ?side2 A12.out).mono ?_); (case side1 => repeat (first | exact (Kd.C_below HR3.out HB.out) | exact HR3.out | (with_reducible refine Kd.C_alloc ?_ _) | (with_reducible refine Kd.C_drewN ?_ _) | (with_reducible refine Kd.C_drew ?_))); (case side2 => exact HC3.out); rintro e w19 ⟨v248, rfl, ho0, hb⟩; refine ⟨_, rfl, ?_⟩; have n0_ := Aside0.mk (Kd.R_elder' (by (with_reducible repeat (first | apply Kd.R_alloc | apply Kd.R_drewN | apply Kd.R_drew)); exact HO242.out) (Kd.R_base ho0) hb); have n1_ := Aside0.mk (Kd.R_elder' (by (with_reducible repeat (first | apply Kd.R_alloc | apply Kd.R_drewN | apply Kd.R_drew)); exact HO246.out) (Kd.R_base ho0) hb); have n2_ := Aside0.mk (Kd.R_lower (Kd.R_new' (Kd.R_new' ho0 (Kd.R_lt (by (with_reducible repeat (first | apply Kd.R_alloc | apply Kd.R_drewN | apply Kd.R_drew)); exact HO242.out))) (Kd.R_lt (by (with_reducible repeat (first | apply Kd.R_alloc | apply Kd.R_drewN | apply Kd.R_drew)); exact HO246.out))) (below_size (by repeat (first | (with_reducible first | exact HB.out | apply below_alloc | apply pw_below_drewN | apply below_drew1) | exact HB.out | exact Below.refl _ _)))); have n3_ := Aside0.mk (below_step (by repeat (first | (with_reducible first | exact HB.out | apply below_alloc | apply pw_below_drewN | apply below_drew1) | exact HB.out | exact Below.refl _ _)) hb); clear HO242; clear HO246; clear HB; have HO242 := n0_; have HO246 := n1_; have HO249 := n2_; have HB := n3_; clear n0_ n1_ n2_ n3_; (try clear hb); (try clear hb2); (try clear hk); (try clear hi); (try clear ho0); obtain ⟨Ao21, co21, eo21⟩ := Kd.R_slice HO242.out; subst eo21) | ((with_reducible refine gate_builtin (b := .append) (xs := #[.tmp 47, .tmp 48]) rfl ?_); (try (refine gate_guard (by rfl) ?_; dsimp only)); at_builtin; refine Kd.R_append_rows (Kd.int .u8) (w0 := w) w.heap.size rfl (.tmp 47) (.tmp 48) 22 5 (.int .u8 0) 1 rfl Try.underlying22 info5 rfl (by decide) (by omega) v248 t247 t239 _ _ _ (fun k_ => some k_ ≠ (.slice Ao21 t239.length co21 : Value).ownBlock ∧ some k_ ≠ (v245 : Value).ownBlock) (fun _ => False) rfl rfl ?aO ?aR (fun _ _ h => h) (fun _ h => h.elim) ?aF ?aB ?aS ?aL ?_; (case aR => repeat (first | exact (Kd.R_reads' HO242.out).2.2 | (with_reducible refine Kd.C_alloc ?_ _) | (with_reducible refine Kd.C_drewN ?_ _) | (with_reducible refine Kd.C_drew ?_))); (case aB => exact (by repeat (first | (with_reducible first | exact HB.out | apply below_alloc | apply pw_below_drewN | apply below_drew1) | exact HB.out | exact Below.refl _ _))); (case aF => exact (fun k_ hk => ⟨Kd.fresh' (Kd.R_lt (by (with_reducible repeat (first | apply Kd.R_alloc | apply Kd.R_drewN | apply Kd.R_drew)); exact HO242.out)) k_ hk, Kd.fresh' (Kd.R_lt (by (with_reducible repeat (first | apply Kd.R_alloc | apply Kd.R_drewN | apply Kd.R_drew)); exact HO246.out)) k_ hk⟩)); (case aO => exact (by (with_reducible repeat (first | apply Kd.R_alloc | apply Kd.R_drewN | apply Kd.R_drew)); exact Kd.R_mono HO249.out (fun _ hk => ⟨hk.1.2, hk.2⟩))); (case aS => exact (below_size (by repeat (first | (with_reducible first | exact HB.out | apply below_alloc | apply pw_below_drewN | apply below_drew1) | exact HB.out | exact Below.refl _ _)))); (case aL => have := LMc13.out; omega); intro v251 w20 ho hb hg hat; rw [← Ny250.out] at ho; have n0_ := Aside0.mk (Kd.R_after (ok := (fun k_ => some k_ ≠ (v245 : Value).ownBlock)) (by (with_reducible repeat (first | apply Kd.R_alloc | apply Kd.R_drewN | apply Kd.R_drew)); exact Kd.R_mono HO242.out (fun _ hk => ⟨hk.1.2, hk.2⟩)) hg hat); have n1_ := Aside0.mk (Kd.R_after (ok := (fun k_ => some k_ ≠ (.slice Ao21 t239.length co21 : Value).ownBlock)) (by (with_reducible repeat (first | apply Kd.R_alloc | apply Kd.R_drewN | apply Kd.R_drew)); exact Kd.R_mono HO246.out (fun _ hk => ⟨hk.1.2, hk.2⟩)) hg hat); have n2_ := Aside0.mk (hb); have n3_ := Aside0.mk (ho); clear HO242; clear HO246; clear HB; clear HO249; have HO242 := n0_; have HO246 := n1_; have HB := n2_; have HO252 := n3_; clear n0_ n1_ n2_ n3_; clear ho hb hg hat) | ((with_reducible refine gate_builtin (b := .append) (xs := #[.tmp 49, .tmp 50]) rfl ?_); (try (refine gate_guard (by rfl) ?_; dsimp only)); at_builtin; refine Kd.R_append_rows (Kd.int .u8) (w0 := w) w.heap.size rfl (.tmp 49) (.tmp 50) 22 5 (.int .u8 0) 1 rfl Try.underlying22 info5 rfl (by decide) (by omega) v251 y250 l4 _ _ _ (fun k_ => some k_ ≠ (.slice Ao21 t239.length co21 : Value).ownBlock ∧ some k_ ≠ (v245 : Value).ownBlock) (fun _ => False) rfl rfl ?aO ?aR (fun _ _ h => h) (fun _ h => h.elim) ?aF ?aB ?aS ?aL ?_; (case aR => repeat (first | exact (Kd.C_below HR4.out HB.out) | exact HR4.out | (with_reducible refine Kd.C_alloc ?_ _) | (with_reducible refine Kd.C_drewN ?_ _) | (with_reducible refine Kd.C_drew ?_))); (case aB => exact (by repeat (first | (with_reducible first | exact HB.out | apply below_alloc | apply pw_below_drewN | apply below_drew1) | exact HB.out | exact Below.refl _ _))); (case aF => exact (fun k_ hk => ⟨Kd.fresh' (Kd.R_lt (by (with_reducible repeat (first | apply Kd.R_alloc | apply Kd.R_drewN | apply Kd.R_drew)); exact HO242.out)) k_ hk, Kd.fresh' (Kd.R_lt (by (with_reducible repeat (first | apply Kd.R_alloc | apply Kd.R_drewN | apply Kd.R_drew)); exact HO246.out)) k_ hk⟩)); (case aO => exact (by (with_reducible repeat (first | apply Kd.R_alloc | apply Kd.R_drewN | apply Kd.R_drew)); exact HO252.out)); (case aS => exact (below_size (by repeat (first | (with_reducible first | exact HB.out | apply below_alloc | apply pw_below_drewN | apply below_drew1) | exact HB.out | exact Below.refl _ _)))); (case aL => have := LMc14.out; omega); intro v254 w22 ho hb hg hat; rw [← Ny253.out] at ho; have n0_ := Aside0.mk (Kd.R_after (ok := (fun k_ => some k_ ≠ (v245 : Value).ownBlock)) (by (with_reducible repeat (first | apply Kd.R_alloc | apply Kd.R_drewN | apply Kd.R_drew)); exact HO242.out) hg hat); have n1_ := Aside0.mk (Kd.R_after (ok := (fun k_ => some k_ ≠ (.slice Ao21 t239.length co21 : Value).ownBlock)) (by (with_reducible repeat (first | apply Kd.R_alloc | apply Kd.R_drewN | apply Kd.R_drew)); exact HO246.out) hg hat); have n2_ := Aside0.mk (hb); have n3_ := Aside0.mk (ho); clear HO242; clear HO246; clear HB; clear HO252; have HO242 := n0_; have HO246 := n1_; have HB := n2_; have HO255 := n3_; clear n0_ n1_ n2_ n3_; clear ho hb hg hat; obtain ⟨Ao23, co23, eo23⟩ := Kd.R_slice HO255.out; subst eo23) | ((with_reducible refine gate_callee (f := 20) rfl ?_); refine goesL_ (some 57) rfl rfl Try.func20 (by kernel_rfl) rfl #[.slice Ao23 y253.length co23, .int .i64 (l3.length : Int), .int .i64 (wrap64 (1 + (wrap64 (Int.tmod (IntKind.u64.wrap (a2)) 8))))] rfl (by (try simp only [List.map_toArray, List.map_cons, List.map_nil]); first | done | rfl | (simp only [List.length_drop, List.length_take]; rfl)) ?_; (with_reducible refine (octets_Get.calls kj5 _ _ y253 (l3.length : Int) (wrap64 (1 + (wrap64 (Int.tmod (IntKind.u64.wrap (a2)) 8)))) t256 t257 _ ?side1 ?side2 A15.out).mono ?_); (case side1 => repeat (first | exact (Kd.R_reads' HO255.out).2.2 | (with_reducible refine Kd.C_alloc ?_ _) | (with_reducible refine Kd.C_drewN ?_ _) | (with_reducible refine Kd.C_drew ?_))); (case side2 => exact (Kd.R_reads' HO255.out).2.1); rintro e w' ⟨rfl, ⟨nd, rfl⟩⟩; refine ⟨_, rfl, ?_⟩))
              (try simp only [Act.put, List.setIfInBounds_toArray, List.set_cons_zero, List.set_cons_succ])
              go_cut [72] (fun v72 wc => ∃ (kq : Nat) (x72_15 : Bool), v72 = .bool x72_15 ∧ Aside0 (terrierlaw01_OctetsBack.j1 kq a0 a1 (wrap64 (1 + (wrap64 (Int.tmod (IntKind.u64.wrap (a2)) 8)))) t239 t240 t243 t244 x72_15 = some r) ∧ Aside0 (kq ≤ kj5) ∧ Aside0 (Kd.R (Kd.int .u8) 5 wc w.heap.size (fun k_ => some k_ ≠ (v245 : Value).ownBlock) (.slice Ao21 t239.length co21) t239) ∧ Aside0 (Kd.R (Kd.int .u8) 5 wc w.heap.size (fun k_ => some k_ ≠ ((.slice Ao21 t239.length co21) : Value).ownBlock) v245 t243) ∧ Aside0 (Below w.heap.size w wc))
              case first =>
                have H := HC16.out
                clear HC16
                by_cases c24 : t257 = 0
                · rw [if_pos c24] at H
                  have c24b0 : (t257 == 0) = true := beq_iff_eq.mpr c24
                  have c24b1 : (t257 != 0) = false := bne_eq_false_iff_eq.mpr c24
                  clear c24
                  (first | rw [c24b0] | (simp only [i64_w, i32_w]; rw [c24b0]) | skip)
                  by_cases c25 : t256 = a0
                  · rw [if_pos c25] at H
                    have c25b0 : (t256 == a0) = true := beq_iff_eq.mpr c25
                    have c25b1 : (t256 != a0) = false := bne_eq_false_iff_eq.mpr c25
                    clear c25
                    have H' := Aside0.mk H
                    clear H
                    go_wp2
                    go_meet
                    case rel => exact ⟨_, (((t239.length : Int) != (wrap64 (1 + (wrap64 (Int.tmod (IntKind.u64.wrap (a2)) 8)))))), (by first | rfl | (simp; done) | (simp [*]; done)), H', ⟨by have := HJ5.out; first | omega | exact Nat.le_refl _⟩, ⟨by (with_reducible repeat (first | apply Kd.R_alloc | apply Kd.R_drewN | apply Kd.R_drew)); exact Kd.R_mono HO242.out (fun _ hk => hk.1)⟩, ⟨by (with_reducible repeat (first | apply Kd.R_alloc | apply Kd.R_drewN | apply Kd.R_drew)); exact Kd.R_mono HO246.out (fun _ hk => hk.1)⟩, ⟨by repeat (first | (with_reducible first | exact HB.out | apply below_alloc | apply pw_below_drewN | apply below_drew1) | exact HB.out | exact Below.refl _ _)⟩⟩
                  · rw [if_neg c25] at H
                    have c25b0 : (t256 == a0) = false := beq_eq_false_iff_ne.mpr c25
                    have c25b1 : (t256 != a0) = true := bne_iff_ne.mpr c25
                    have H' := Aside0.mk H
                    clear H
                    go_wp2
                    go_meet
                    case rel => exact ⟨_, (true), (by first | rfl | (simp; done) | (simp [*]; done)), H', ⟨by have := HJ5.out; first | omega | exact Nat.le_refl _⟩, ⟨by (with_reducible repeat (first | apply Kd.R_alloc | apply Kd.R_drewN | apply Kd.R_drew)); exact Kd.R_mono HO242.out (fun _ hk => hk.1)⟩, ⟨by (with_reducible repeat (first | apply Kd.R_alloc | apply Kd.R_drewN | apply Kd.R_drew)); exact Kd.R_mono HO246.out (fun _ hk => hk.1)⟩, ⟨by repeat (first | (with_reducible first | exact HB.out | apply below_alloc | apply pw_below_drewN | apply below_drew1) | exact HB.out | exact Below.refl _ _)⟩⟩
                · rw [if_neg c24] at H
                  have c24b0 : (t257 == 0) = false := beq_eq_false_iff_ne.mpr c24
                  have c24b1 : (t257 != 0) = true := bne_iff_ne.mpr c24
                  (first | rw [c24b0] | (simp only [i64_w, i32_w]; rw [c24b0]) | skip)
                  have H' := Aside0.mk H
                  clear H
                  go_wp2
                  go_meet
                  case rel => exact ⟨_, (true), (by first | rfl | (simp; done) | (simp [*]; done)), H', ⟨by have := HJ5.out; first | omega | exact Nat.le_refl _⟩, ⟨by (with_reducible repeat (first | apply Kd.R_alloc | apply Kd.R_drewN | apply Kd.R_drew)); exact Kd.R_mono HO242.out (fun _ hk => hk.1)⟩, ⟨by (with_reducible repeat (first | apply Kd.R_alloc | apply Kd.R_drewN | apply Kd.R_drew)); exact Kd.R_mono HO246.out (fun _ hk => hk.1)⟩, ⟨by repeat (first | (with_reducible first | exact HB.out | apply below_alloc | apply pw_below_drewN | apply below_drew1) | exact HB.out | exact Below.refl _ _)⟩⟩
              case rest =>
                clear HC16
                try clear c1
                try clear c2
                try clear p2
                try clear c3
                try clear c4
                try clear p6
                try clear c7
                try clear c7b0
                try clear c7b1
                try clear c8
                try clear c11
                try clear c11b0
                try clear c11b1
                try clear c13
                try clear c14
                try clear c16
                try clear c19
                try clear c20
                try clear c24
                try clear c24b0
                try clear c24b1
                try clear c25
                try clear c25b0
                try clear c25b1
                try clear p2
                try clear p6
                obtain ⟨kq, x72_15, rfl, HA, HJ15, HO_11, HO_13, HB⟩ := hcut
                cases kq with
                | zero => exact absurd HA.out (by simp [terrierlaw01_OctetsBack.j1])
                | succ kj15 =>
                  have H := HA.out
                  clear HA
                  simp only [terrierlaw01_OctetsBack.j1] at H
                  by_cases c26 : x72_15 = true
                  · subst c26
                    have H1 : (some false) = some r := by rw [if_pos rfl] at H; exact H
                    clear H
                    have H := H1
                    clear H1
                    obtain rfl := Option.some.inj H
                    go_wp2
                    go_ret
                    exact ⟨by first | rfl | (simp [errW_none, errW_some] <;> rfl) | (simp [*, errW_none, errW_some] <;> rfl), by repeat (first | (with_reducible first | exact HB.out | apply below_alloc | apply pw_below_drewN | apply below_drew1) | exact HB.out | exact Below.refl _ _)⟩
                  · replace c26 := Bool.eq_false_iff.mpr c26
                    subst c26
                    have H1 : (if t240 = 0 then (if t244 = 0 then ((octets_Compare.f t239 t243).bind fun t258 => (if ((decide (t258 < 0)) == (decide (a0 < a1))) = true then (some ((t258 == 0) == (a0 == a1))) else (some false))) else (some (decide ((wrap64 (1 + (wrap64 (Int.tmod (IntKind.u64.wrap (a2)) 8)))) < 8)))) else (some (decide ((wrap64 (1 + (wrap64 (Int.tmod (IntKind.u64.wrap (a2)) 8)))) < 8)))) = some r := by rw [if_neg (show ¬ (false = true) by decide)] at H; exact H
                    clear H
                    have H := H1
                    clear H1
                    by_cases c27 : t240 = 0
                    · rw [if_pos c27] at H
                      have c27b0 : (t240 == 0) = true := beq_iff_eq.mpr c27
                      have c27b1 : (t240 != 0) = false := bne_eq_false_iff_eq.mpr c27
                      clear c27
                      by_cases c28 : t244 = 0
                      · rw [if_pos c28] at H
                        have c28b0 : (t244 == 0) = true := beq_iff_eq.mpr c28
                        have c28b1 : (t244 != 0) = false := bne_eq_false_iff_eq.mpr c28
                        clear c28
                        replace H := Option.bind_eq_some_iff.mp H
                        obtain ⟨t258, A290, H⟩ := H
                        replace H : (if ((decide (t258 < 0)) == (decide (a0 < a1))) = true then (some ((t258 == 0) == (a0 == a1))) else (some false)) = some r := H
                        have A29 := Aside0.mk A290
                        clear A290
                        by_cases c30 : ((decide (t258 < 0)) == (decide (a0 < a1))) = true
                        · rw [if_pos c30] at H
                          have c30b0 : ((decide (t258 < 0)) == (decide (a0 < a1))) = true := c30
                          (try (have c30b1 : decide ((decide (t258 < 0)) = (decide (a0 < a1))) = true := by simpa using c30))
                          (try (have c30b2 : ((decide (t258 < 0)) == (decide (a0 < a1))) = true := by simpa using c30))
                          clear c30
                          obtain rfl := Option.some.inj H
                          obtain ⟨Ao31, co31, eo31⟩ := Kd.R_slice HO_13.out
                          subst eo31
                          go_wp2_with (first | ((with_reducible refine gate_callee (f := 14) rfl ?_); refine goesL_ (some 83) rfl rfl Try.func14 (by kernel_rfl) rfl #[.slice Ao21 t239.length co21, .slice Ao31 t243.length co31] rfl (by (try simp only [List.map_toArray, List.map_cons, List.map_nil]); first | done | rfl | (simp only [List.length_drop, List.length_take]; rfl)) ?_; (with_reducible refine (octets_Compare.calls _ _ t239 _ _ t243 t258 _ ?side1 ?side2 ?side3 ?side4 A29.out).mono ?_); (case side1 => repeat (first | exact (Kd.R_reads' HO_11.out).2.2 | (with_reducible refine Kd.C_alloc ?_ _) | (with_reducible refine Kd.C_drewN ?_ _) | (with_reducible refine Kd.C_drew ?_))); (case side2 => exact (Kd.R_reads' HO_11.out).2.1); (case side3 => repeat (first | exact (Kd.R_reads' HO_13.out).2.2 | (with_reducible refine Kd.C_alloc ?_ _) | (with_reducible refine Kd.C_drewN ?_ _) | (with_reducible refine Kd.C_drew ?_))); (case side4 => exact (Kd.R_reads' HO_13.out).2.1); rintro e w' ⟨rfl, ⟨nd, rfl⟩⟩; refine ⟨_, rfl, ?_⟩))
                          go_ret
                          exact ⟨by first | rfl | (simp [errW_none, errW_some] <;> rfl) | (simp [*, errW_none, errW_some] <;> rfl), by repeat (first | (with_reducible first | exact HB.out | apply below_alloc | apply pw_below_drewN | apply below_drew1) | exact HB.out | exact Below.refl _ _)⟩
                        · rw [if_neg c30] at H
                          have c30b0 : ((decide (t258 < 0)) == (decide (a0 < a1))) = false := by simpa using c30
                          (try (have c30b1 : decide ((decide (t258 < 0)) = (decide (a0 < a1))) = false := by simpa using c30))
                          (try (have c30b2 : ((decide (t258 < 0)) == (decide (a0 < a1))) = false := by simpa using c30))
                          (try (have c30b3 : ¬ ((decide (t258 < 0)) = (decide (a0 < a1))) := by simpa using c30))
                          clear c30
                          obtain rfl := Option.some.inj H
                          obtain ⟨Ao32, co32, eo32⟩ := Kd.R_slice HO_13.out
                          subst eo32
                          go_wp2_with (first | ((with_reducible refine gate_callee (f := 14) rfl ?_); refine goesL_ (some 83) rfl rfl Try.func14 (by kernel_rfl) rfl #[.slice Ao21 t239.length co21, .slice Ao32 t243.length co32] rfl (by (try simp only [List.map_toArray, List.map_cons, List.map_nil]); first | done | rfl | (simp only [List.length_drop, List.length_take]; rfl)) ?_; (with_reducible refine (octets_Compare.calls _ _ t239 _ _ t243 t258 _ ?side1 ?side2 ?side3 ?side4 A29.out).mono ?_); (case side1 => repeat (first | exact (Kd.R_reads' HO_11.out).2.2 | (with_reducible refine Kd.C_alloc ?_ _) | (with_reducible refine Kd.C_drewN ?_ _) | (with_reducible refine Kd.C_drew ?_))); (case side2 => exact (Kd.R_reads' HO_11.out).2.1); (case side3 => repeat (first | exact (Kd.R_reads' HO_13.out).2.2 | (with_reducible refine Kd.C_alloc ?_ _) | (with_reducible refine Kd.C_drewN ?_ _) | (with_reducible refine Kd.C_drew ?_))); (case side4 => exact (Kd.R_reads' HO_13.out).2.1); rintro e w' ⟨rfl, ⟨nd, rfl⟩⟩; refine ⟨_, rfl, ?_⟩))
                          go_ret
                          exact ⟨by first | rfl | (simp [errW_none, errW_some] <;> rfl) | (simp [*, errW_none, errW_some] <;> rfl), by repeat (first | (with_reducible first | exact HB.out | apply below_alloc | apply pw_below_drewN | apply below_drew1) | exact HB.out | exact Below.refl _ _)⟩
                      · rw [if_neg c28] at H
                        have c28b0 : (t244 == 0) = false := beq_eq_false_iff_ne.mpr c28
                        have c28b1 : (t244 != 0) = true := bne_iff_ne.mpr c28
                        obtain rfl := Option.some.inj H
                        go_wp2
                        go_ret
                        exact ⟨by first | rfl | (simp [errW_none, errW_some] <;> rfl) | (simp [*, errW_none, errW_some] <;> rfl), by repeat (first | (with_reducible first | exact HB.out | apply below_alloc | apply pw_below_drewN | apply below_drew1) | exact HB.out | exact Below.refl _ _)⟩
                    · rw [if_neg c27] at H
                      have c27b0 : (t240 == 0) = false := beq_eq_false_iff_ne.mpr c27
                      have c27b1 : (t240 != 0) = true := bne_iff_ne.mpr c27
                      obtain rfl := Option.some.inj H
                      go_wp2
                      go_ret
                      exact ⟨by first | rfl | (simp [errW_none, errW_some] <;> rfl) | (simp [*, errW_none, errW_some] <;> rfl), by repeat (first | (with_reducible first | exact HB.out | apply below_alloc | apply pw_below_drewN | apply below_drew1) | exact HB.out | exact Below.refl _ _)⟩
            · rw [if_neg c14] at H
              exact absurd H (by simp)
          · rw [if_neg c13] at H
            exact absurd H (by simp)
        · rw [if_neg c11] at H
          have c11b0 : (t240 == 0) = false := beq_eq_false_iff_ne.mpr c11
          have c11b1 : (t240 != 0) = true := bne_iff_ne.mpr c11
          obtain rfl := Option.some.inj H
          go_wp2_with (first | ((with_reducible refine gate_callee (f := 16) rfl ?_); refine goesL_ (some 35) rfl rfl Try.func16 (by kernel_rfl) rfl #[.int .u64 a0, .int .i64 (wrap64 (1 + (wrap64 (Int.tmod (IntKind.u64.wrap (a2)) 8))))] rfl (by (try simp only [List.map_toArray, List.map_cons, List.map_nil]); first | done | rfl | (simp only [List.length_drop, List.length_take]; rfl)) ?_; (with_reducible refine (octets_Put.calls kj5 a0 (wrap64 (1 + (wrap64 (Int.tmod (IntKind.u64.wrap (a2)) 8)))) t239 t240 _ A9.out).mono ?_); rintro e w33 ⟨v241, rfl, ho0, hb⟩; refine ⟨_, rfl, ?_⟩; have n0_ := Aside0.mk (Kd.R_lower ho0 (below_size (by repeat (first | (with_reducible first | exact HB.out | apply below_alloc | apply pw_below_drewN | apply below_drew1) | exact HB.out | exact Below.refl _ _)))); have n1_ := Aside0.mk (below_step (by repeat (first | (with_reducible first | exact HB.out | apply below_alloc | apply pw_below_drewN | apply below_drew1) | exact HB.out | exact Below.refl _ _)) hb); clear HB; have HO242 := n0_; have HB := n1_; clear n0_ n1_; (try clear hb); (try clear hb2); (try clear hk); (try clear hi); (try clear ho0)) | ((with_reducible refine gate_callee (f := 16) rfl ?_); refine goesL_ (some 41) rfl rfl Try.func16 (by kernel_rfl) rfl #[.int .u64 a1, .int .i64 (wrap64 (1 + (wrap64 (Int.tmod (IntKind.u64.wrap (a2)) 8))))] rfl (by (try simp only [List.map_toArray, List.map_cons, List.map_nil]); first | done | rfl | (simp only [List.length_drop, List.length_take]; rfl)) ?_; (with_reducible refine (octets_Put.calls kj5 a1 (wrap64 (1 + (wrap64 (Int.tmod (IntKind.u64.wrap (a2)) 8)))) t243 t244 _ A10.out).mono ?_); rintro e w34 ⟨v245, rfl, ho0, hb⟩; refine ⟨_, rfl, ?_⟩; have n0_ := Aside0.mk (Kd.R_elder' (by (with_reducible repeat (first | apply Kd.R_alloc | apply Kd.R_drewN | apply Kd.R_drew)); exact HO242.out) (Kd.R_base ho0) hb); have n1_ := Aside0.mk (Kd.R_lower (Kd.R_new' ho0 (Kd.R_lt (by (with_reducible repeat (first | apply Kd.R_alloc | apply Kd.R_drewN | apply Kd.R_drew)); exact HO242.out))) (below_size (by repeat (first | (with_reducible first | exact HB.out | apply below_alloc | apply pw_below_drewN | apply below_drew1) | exact HB.out | exact Below.refl _ _)))); have n2_ := Aside0.mk (below_step (by repeat (first | (with_reducible first | exact HB.out | apply below_alloc | apply pw_below_drewN | apply below_drew1) | exact HB.out | exact Below.refl _ _)) hb); clear HO242; clear HB; have HO242 := n0_; have HO246 := n1_; have HB := n2_; clear n0_ n1_ n2_; (try clear hb); (try clear hb2); (try clear hk); (try clear hi); (try clear ho0)))
          go_ret
          exact ⟨by first | rfl | (simp [errW_none, errW_some] <;> rfl) | (simp [*, errW_none, errW_some] <;> rfl), by repeat (first | (with_reducible first | exact HB.out | apply below_alloc | apply pw_below_drewN | apply below_drew1) | exact HB.out | exact Below.refl _ _)⟩

/-- THE ONE PURE STATEMENT of terrierlaw01_OctetsBack: yours. -/
def terrierlaw01_OctetsBack.Pure : Prop := ∀ (a0 : Int) (a1 : Int) (a2 : Int) (l3 : List Int) (l4 : List Int), (Lit.int .u64 a0).wf = true → (Lit.int .u64 a1).wf = true → (Lit.int .i64 a2).wf = true → l3.length ≤ maxLen → l3.length * 1 ≤ 140737488351232 → (∀ x ∈ l3, (Lit.int .u8 x).wf = true) → l4.length ≤ maxLen → l4.length * 1 ≤ 140737488351232 → (∀ x ∈ l4, (Lit.int .u8 x).wf = true) → ∃ k, terrierlaw01_OctetsBack.f k a0 a1 a2 l3 l4 = some true
theorem terrierlaw01_OctetsBack.walk (P : terrierlaw01_OctetsBack.Pure) (a0 : Int) (a1 : Int) (a2 : Int) (a3 : Option Addr) (len3 cap3 : Nat) (z3 : List Int) (a4 : Option Addr) (len4 cap4 : Nat) (z4 : List Int) (w : World) (w0 : (Lit.int .u64 a0).wf = true) (w1 : (Lit.int .u64 a1).wf = true) (w2 : (Lit.int .i64 a2).wf = true) (w3 : (a3 = none ∧ len3 = 0 ∧ cap3 = 0 ∧ z3 = []) ∨ ∃ x, a3 = some x ∧ len3 ≤ cap3 ∧ cap3 ≤ maxLen ∧ z3.length = cap3 ∧ (∀ i, i < z3.length → w.cell? (x.add i) = some (.int .u8 (z3.getD i 0))) ∧ ∀ n ∈ z3, (Lit.int .u8 n).wf = true) (y3 : len3 * 1 ≤ 140737488351232) (w4 : (a4 = none ∧ len4 = 0 ∧ cap4 = 0 ∧ z4 = []) ∨ ∃ x, a4 = some x ∧ len4 ≤ cap4 ∧ cap4 ≤ maxLen ∧ z4.length = cap4 ∧ (∀ i, i < z4.length → w.cell? (x.add i) = some (.int .u8 (z4.getD i 0))) ∧ ∀ n ∈ z4, (Lit.int .u8 n).wf = true) (y4 : len4 * 1 ≤ 140737488351232) :
    Calls Try.prog 7 #[.int .u64 a0, .int .u64 a1, .int .i64 a2, .slice a3 len3 cap3, .slice a4 len4 cap4] w fun e w' => e = .returned (.bool true) ∧ Below w.heap.size w w' := by
  obtain ⟨l3, rfl, hr3, hm3, hw3, hc3⟩ := ReadsInt.ofRowC w3
  obtain ⟨l4, rfl, hr4, hm4, hw4, hc4⟩ := ReadsInt.ofRowC w4
  obtain ⟨k, h⟩ := P a0 a1 a2 l3 l4 w0 w1 w2 hm3 y3 hw3 hm4 y4 hw4
  refine (terrierlaw01_OctetsBack.calls k a0 a1 a2 _ _ l3 _ _ l4 true w (Kd.C_of_reads (d := (0 : Int)) (h1 := fun _ => rfl) hr3) hc3 (Kd.C_of_reads (d := (0 : Int)) (h1 := fun _ => rfl) hr4) hc4 h).mono ?_
  rintro e w' ⟨rfl, hd⟩
  exact ⟨rfl, hd⟩

end Go.Proofs.Ytleonalpeicjaaa.PS
