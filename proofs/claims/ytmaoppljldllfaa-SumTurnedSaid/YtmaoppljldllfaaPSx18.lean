-- Written by wip/printx.py, a program of this work over the kit's print, for this claim.
import Derived.Test.YtmaoppljldllfaaPSx0
import Derived.Test.YtmaoppljldllfaaPSx3
import Derived.Test.YtmaoppljldllfaaPSx9
import Derived.Test.YtmaoppljldllfaaPSx11
namespace Go.Proofs.Ytmaoppljldllfaa.PS
open Go.RowKit Go.Proofs.YtmaoppljldllfaaW.PrintWords Go.Proofs.YtmaoppljldllfaaW.PrintLast Go.Proofs.YtmaoppljldllfaaW.PrintMore
attribute [local go_sem] max2_int min2_int max_two min_two max_three min_three max_four min_four   -- for this text's walks alone
attribute [local go_sem] Ext.pick_u8 Ext.pick_u32 Ext.pick_u64
set_option linter.unusedVariables false
set_option linter.unusedSimpArgs false

/-! ### terrierlaw02_SumTurned: function 7 -/
mutual
def terrierlaw02_SumTurned.j0 : Nat → List Int → Int → Int → Bool → Bool → Option (Bool)
  | 0, _, _, _, _, _ => none
  | k + 1, x0, x1, x2, x3, x26 => if x26 = true then ((terrierlaw02_lives.f k).bind fun t279 => (some t279)) else ((sum_Seal.f k x0).bind fun t280 => (if (t280.length : Int) = (wrap64 ((x0.length : Int) + 4)) then (if x3 = true then (terrierlaw02_SumTurned.j1 k x1 x2 t280 0 32) else (terrierlaw02_SumTurned.j1 k x1 x2 t280 32 (wrap64 (8 * (t280.length : Int))))) else (some false)))
def terrierlaw02_SumTurned.j1 : Nat → Int → Int → List Int → Int → Int → Option (Bool)
  | 0, _, _, _, _, _ => none
  | k + 1, x1, x2, x9, x10, x11 => if x10 = x11 then (some true) else (if (IntKind.u64.wrap (wrap64 (x11 - x10))) = 0 then (none) else (terrierlaw02_SumTurned.l0 k (wrap64 (x10 + (wrap64 (Int.tmod (IntKind.u64.wrap (x1)) (IntKind.u64.wrap (wrap64 (x11 - x10))))))) x2 x9 x11 false 0))
def terrierlaw02_SumTurned.l0 : Nat → Int → Int → List Int → Int → Bool → Int → Option (Bool)
  | 0, _, _, _, _, _, _ => none
  | k + 1, x1, x2, x9, x11, x12, x13 => if x13 < 32 then (terrierlaw02_SumTurned.j3 k x1 x2 x9 x11 x12 x13 (decide (x13 < (wrap64 (x11 - x1))))) else (terrierlaw02_SumTurned.j3 k x1 x2 x9 x11 x12 x13 false)
def terrierlaw02_SumTurned.j3 : Nat → Int → Int → List Int → Int → Bool → Int → Bool → Option (Bool)
  | 0, _, _, _, _, _, _, _ => none
  | k + 1, x1, x2, x9, x11, x12, x13, x61 => if x61 = true then (if 0 ≤ x13 then (if (Go.bits .and .u32 (shr .u32 x2 x13) 1) = 1 then (if 0 ≤ (wrap64 (Int.tdiv (wrap64 (x1 + x13)) 8)) then (if (wrap64 (Int.tdiv (wrap64 (x1 + x13)) 8)) < (x9.length : Int) then (if 0 ≤ (Int.tmod (wrap64 (x1 + x13)) 8) then (terrierlaw02_SumTurned.l0 k x1 x2 (x9.set ((wrap64 (Int.tdiv (wrap64 (x1 + x13)) 8)) : Int).toNat (Go.bits .xor .u8 (rd x9 (wrap64 (Int.tdiv (wrap64 (x1 + x13)) 8))) (shl .u8 1 (Int.tmod (wrap64 (x1 + x13)) 8)))) x11 true (wrap64 (x13 + 1))) else (none)) else (none)) else (none)) else (terrierlaw02_SumTurned.l0 k x1 x2 x9 x11 x12 (wrap64 (x13 + 1)))) else (none)) else ((sum_Open.f k x9).bind fun bt285 => (if (x12 == (bt285.2 == 6)) = true then (some (x12 == (bt285.2 != 0))) else (some false)))
end
def terrierlaw02_SumTurned.f (k : Nat) (l0 : List Int) (a1 : Int) (a2 : Int) (a3 : Bool) : Option (Bool) := (terrierlaw02_lives.f k).bind fun t278 => (if t278 = true then (if (l0.length : Int) > 4096 then (terrierlaw02_SumTurned.j0 k l0 a1 a2 a3 true) else (terrierlaw02_SumTurned.j0 k l0 a1 a2 a3 (a2 == 0))) else (terrierlaw02_SumTurned.j0 k l0 a1 a2 a3 true))
theorem terrierlaw02_SumTurned.mono_l : ∀ k, (∀ y0 y1 y2 y3 y4, LeO (terrierlaw02_SumTurned.j0 k y0 y1 y2 y3 y4) (terrierlaw02_SumTurned.j0 (k + 1) y0 y1 y2 y3 y4)) ∧ (∀ y0 y1 y2 y3 y4, LeO (terrierlaw02_SumTurned.j1 k y0 y1 y2 y3 y4) (terrierlaw02_SumTurned.j1 (k + 1) y0 y1 y2 y3 y4)) ∧ (∀ y0 y1 y2 y3 y4 y5, LeO (terrierlaw02_SumTurned.l0 k y0 y1 y2 y3 y4 y5) (terrierlaw02_SumTurned.l0 (k + 1) y0 y1 y2 y3 y4 y5)) ∧ (∀ y0 y1 y2 y3 y4 y5 y6, LeO (terrierlaw02_SumTurned.j3 k y0 y1 y2 y3 y4 y5 y6) (terrierlaw02_SumTurned.j3 (k + 1) y0 y1 y2 y3 y4 y5 y6))
  | 0 => ⟨fun _ _ _ _ _ r h => by simp [terrierlaw02_SumTurned.j0] at h, fun _ _ _ _ _ r h => by simp [terrierlaw02_SumTurned.j1] at h, fun _ _ _ _ _ _ r h => by simp [terrierlaw02_SumTurned.l0] at h, fun _ _ _ _ _ _ _ r h => by simp [terrierlaw02_SumTurned.j3] at h⟩
  | k + 1 => by
    obtain ⟨ih0, ih1, ih2, ih3⟩ := terrierlaw02_SumTurned.mono_l k
    refine ⟨?_, ?_, ?_, ?_⟩
    · intro y0 y1 y2 y3 y4
      unfold terrierlaw02_SumTurned.j0
      repeat' first
      | (with_reducible exact ih0 _ _ _ _ _)
      | (with_reducible exact ih1 _ _ _ _ _)
      | (with_reducible exact ih2 _ _ _ _ _ _)
      | (with_reducible exact ih3 _ _ _ _ _ _ _)
      | (with_reducible exact sum_Open.mono _ _)
      | (with_reducible exact sum_Seal.mono _ _)
      | (with_reducible exact terrierlaw02_lives.mono _)
      | (with_reducible exact LeO.refl _)
      | (with_reducible exact LeO.none _)
      | (with_reducible refine LeO.ite ?_ ?_)
      | (with_reducible refine LeO.bind ?_ (fun _ => ?_))
      | exact ih0 _ _ _ _ _
      | exact ih1 _ _ _ _ _
      | exact ih2 _ _ _ _ _ _
      | exact ih3 _ _ _ _ _ _ _
      | exact sum_Open.mono _ _
      | exact sum_Seal.mono _ _
      | exact terrierlaw02_lives.mono _
      | exact LeO.none _
      | refine LeO.ite ?_ ?_
      | refine LeO.bind ?_ (fun _ => ?_)
    · intro y0 y1 y2 y3 y4
      unfold terrierlaw02_SumTurned.j1
      repeat' first
      | (with_reducible exact ih0 _ _ _ _ _)
      | (with_reducible exact ih1 _ _ _ _ _)
      | (with_reducible exact ih2 _ _ _ _ _ _)
      | (with_reducible exact ih3 _ _ _ _ _ _ _)
      | (with_reducible exact sum_Open.mono _ _)
      | (with_reducible exact sum_Seal.mono _ _)
      | (with_reducible exact terrierlaw02_lives.mono _)
      | (with_reducible exact LeO.refl _)
      | (with_reducible exact LeO.none _)
      | (with_reducible refine LeO.ite ?_ ?_)
      | (with_reducible refine LeO.bind ?_ (fun _ => ?_))
      | exact ih0 _ _ _ _ _
      | exact ih1 _ _ _ _ _
      | exact ih2 _ _ _ _ _ _
      | exact ih3 _ _ _ _ _ _ _
      | exact sum_Open.mono _ _
      | exact sum_Seal.mono _ _
      | exact terrierlaw02_lives.mono _
      | exact LeO.none _
      | refine LeO.ite ?_ ?_
      | refine LeO.bind ?_ (fun _ => ?_)
    · intro y0 y1 y2 y3 y4 y5
      unfold terrierlaw02_SumTurned.l0
      repeat' first
      | (with_reducible exact ih0 _ _ _ _ _)
      | (with_reducible exact ih1 _ _ _ _ _)
      | (with_reducible exact ih2 _ _ _ _ _ _)
      | (with_reducible exact ih3 _ _ _ _ _ _ _)
      | (with_reducible exact sum_Open.mono _ _)
      | (with_reducible exact sum_Seal.mono _ _)
      | (with_reducible exact terrierlaw02_lives.mono _)
      | (with_reducible exact LeO.refl _)
      | (with_reducible exact LeO.none _)
      | (with_reducible refine LeO.ite ?_ ?_)
      | (with_reducible refine LeO.bind ?_ (fun _ => ?_))
      | exact ih0 _ _ _ _ _
      | exact ih1 _ _ _ _ _
      | exact ih2 _ _ _ _ _ _
      | exact ih3 _ _ _ _ _ _ _
      | exact sum_Open.mono _ _
      | exact sum_Seal.mono _ _
      | exact terrierlaw02_lives.mono _
      | exact LeO.none _
      | refine LeO.ite ?_ ?_
      | refine LeO.bind ?_ (fun _ => ?_)
    · intro y0 y1 y2 y3 y4 y5 y6
      unfold terrierlaw02_SumTurned.j3
      repeat' first
      | (with_reducible exact ih0 _ _ _ _ _)
      | (with_reducible exact ih1 _ _ _ _ _)
      | (with_reducible exact ih2 _ _ _ _ _ _)
      | (with_reducible exact ih3 _ _ _ _ _ _ _)
      | (with_reducible exact sum_Open.mono _ _)
      | (with_reducible exact sum_Seal.mono _ _)
      | (with_reducible exact terrierlaw02_lives.mono _)
      | (with_reducible exact LeO.refl _)
      | (with_reducible exact LeO.none _)
      | (with_reducible refine LeO.ite ?_ ?_)
      | (with_reducible refine LeO.bind ?_ (fun _ => ?_))
      | exact ih0 _ _ _ _ _
      | exact ih1 _ _ _ _ _
      | exact ih2 _ _ _ _ _ _
      | exact ih3 _ _ _ _ _ _ _
      | exact sum_Open.mono _ _
      | exact sum_Seal.mono _ _
      | exact terrierlaw02_lives.mono _
      | exact LeO.none _
      | refine LeO.ite ?_ ?_
      | refine LeO.bind ?_ (fun _ => ?_)
theorem terrierlaw02_SumTurned.mono : ∀ a0 a1 a2 a3 k, LeO (terrierlaw02_SumTurned.f k a0 a1 a2 a3) (terrierlaw02_SumTurned.f (k + 1) a0 a1 a2 a3) := by
  intro a0 a1 a2 a3 k
  obtain ⟨ih0, ih1, ih2, ih3⟩ := terrierlaw02_SumTurned.mono_l k
  unfold terrierlaw02_SumTurned.f
  repeat' first
      | (with_reducible exact ih0 _ _ _ _ _)
      | (with_reducible exact ih1 _ _ _ _ _)
      | (with_reducible exact ih2 _ _ _ _ _ _)
      | (with_reducible exact ih3 _ _ _ _ _ _ _)
      | (with_reducible exact sum_Open.mono _ _)
      | (with_reducible exact sum_Seal.mono _ _)
      | (with_reducible exact terrierlaw02_lives.mono _)
      | (with_reducible exact LeO.refl _)
      | (with_reducible exact LeO.none _)
      | (with_reducible refine LeO.ite ?_ ?_)
      | (with_reducible refine LeO.bind ?_ (fun _ => ?_))
      | exact ih0 _ _ _ _ _
      | exact ih1 _ _ _ _ _
      | exact ih2 _ _ _ _ _ _
      | exact ih3 _ _ _ _ _ _ _
      | exact sum_Open.mono _ _
      | exact sum_Seal.mono _ _
      | exact terrierlaw02_lives.mono _
      | exact LeO.none _
      | refine LeO.ite ?_ ?_
      | refine LeO.bind ?_ (fun _ => ?_)
def terrierlaw02_SumTurned.T17 : Bool × List (List Nat × List Nat) := (true, [([], []), ([], []), ([], []), ([1, 2], [1, 2]), ([3], [3]), ([0, 4], [0, 4]), ([5], [5]), ([], []), ([], []), ([7, 8], [7, 8]), ([9], [9]), ([10], [10]), ([6, 11], [6, 11]), ([0, 4, 0, 1, 2, 3, 4, 5, 6, 7, 8, 9, 10, 11, 12], [0, 4]), ([13, 12, 0, 1, 2, 3, 4, 5, 6, 7, 8, 9, 10, 11, 12], [12, 13])])
def terrierlaw02_SumTurned.B17 : List Nat := [0, 0, 0, 6, 14, 31, 63, 0, 0, 384, 896, 1920, 4095, 8191, 16383]
theorem terrierlaw02_SumTurned.tab17 : rtab .any (opsOf Try.f7 17) = terrierlaw02_SumTurned.T17 := by kernel_rfl
theorem terrierlaw02_SumTurned.bits17 : waitsOk terrierlaw02_SumTurned.T17.2 terrierlaw02_SumTurned.B17 = true := by kernel_rfl
set_option maxHeartbeats 8000000 in
set_option maxRecDepth 100000 in
theorem terrierlaw02_SumTurned.calls (k : Nat) (A0 : Option Addr) (c0 : Nat) (l0 : List Int) (a1 : Int) (a2 : Int) (a3 : Bool) (r : Bool) (w : World) (hr0 : Kd.C (Kd.int .u8) w A0 l0.length l0) (hc0 : l0.length ≤ c0) (h : terrierlaw02_SumTurned.f k l0 a1 a2 a3 = some r) :
    Calls Try.prog 7 #[.slice A0 l0.length c0, .int .i64 a1, .int .u32 a2, .bool a3] w fun e w' => e = .returned (.bool r) ∧ Below w.heap.size w w' := by
  have HR0 := Aside0.mk hr0
  have HC0 := Aside0.mk hc0
  clear hr0 hc0
  have HB := Aside0.mk (Below.refl w.heap.size w)
  have H : ((terrierlaw02_lives.f k).bind fun t278 => (if t278 = true then (if (l0.length : Int) > 4096 then (terrierlaw02_SumTurned.j0 k l0 a1 a2 a3 true) else (terrierlaw02_SumTurned.j0 k l0 a1 a2 a3 (a2 == 0))) else (terrierlaw02_SumTurned.j0 k l0 a1 a2 a3 true))) = some r := h
  clear h
  have HC5 := Aside0.mk H
  clear H
  go_enter Try.func7, Try.ntmps7
  go_upto_region 1 with (fail)
  go_cut [26] (fun v26 wc => ∃ (kq : Nat) (x26_4 : Bool), v26 = .bool x26_4 ∧ Aside0 (terrierlaw02_SumTurned.j0 kq l0 a1 a2 a3 x26_4 = some r) ∧ Aside0 (kq ≤ k) ∧ Aside0 (Below w.heap.size w wc))
  case first =>
    have H := HC5.out
    clear HC5
    replace H := Option.bind_eq_some_iff.mp H
    obtain ⟨t278, A60, H⟩ := H
    replace H : (if t278 = true then (if (l0.length : Int) > 4096 then (terrierlaw02_SumTurned.j0 k l0 a1 a2 a3 true) else (terrierlaw02_SumTurned.j0 k l0 a1 a2 a3 (a2 == 0))) else (terrierlaw02_SumTurned.j0 k l0 a1 a2 a3 true)) = some r := H
    have A6 := Aside0.mk A60
    clear A60
    by_cases c7 : t278 = true
    · subst c7
      have H1 : (if (l0.length : Int) > 4096 then (terrierlaw02_SumTurned.j0 k l0 a1 a2 a3 true) else (terrierlaw02_SumTurned.j0 k l0 a1 a2 a3 (a2 == 0))) = some r := by rw [if_pos rfl] at H; exact H
      clear H
      have H := H1
      clear H1
      by_cases c8 : (l0.length : Int) > 4096
      · rw [if_pos c8] at H
        have c8b0 : decide (4096 < (l0.length : Int)) = true := decide_eq_true c8
        have c8b1 : decide (4096 < l0.length) = true := decide_eq_true (by omega)
        clear c8
        (first | rw [c8b0] | (simp only [i64_w, i32_w]; rw [c8b0]) | skip)
        have H' := Aside0.mk H
        clear H
        go_wp2_with (first | ((with_reducible refine gate_callee (f := 8) rfl ?_); refine goesL_ (some 16) rfl rfl Try.func8 (by kernel_rfl) rfl #[] rfl (by (try simp only [List.map_toArray, List.map_cons, List.map_nil]); first | done | rfl | (simp only [List.length_drop, List.length_take]; rfl)) ?_; (with_reducible refine (terrierlaw02_lives.calls k  true _ A6.out).mono ?_); rintro e w9 ⟨rfl, hb⟩; refine ⟨_, rfl, ?_⟩; have n0_ := Aside0.mk (below_step (by repeat (first | (with_reducible first | exact HB.out | apply below_alloc | apply pw_below_drewN | apply below_drew1) | exact HB.out | exact Below.refl _ _)) hb); clear HB; have HB := n0_; clear n0_; (try clear hb); (try clear hb2); (try clear hk); (try clear hi)))
        go_meet
        case rel => exact ⟨_, (true), (by first | rfl | (simp; done) | (simp [*]; done)), H', ⟨by first | omega | exact Nat.le_refl _⟩, ⟨by repeat (first | (with_reducible first | exact HB.out | apply below_alloc | apply pw_below_drewN | apply below_drew1) | exact HB.out | exact Below.refl _ _)⟩⟩
      · rw [if_neg c8] at H
        have c8b0 : decide (4096 < (l0.length : Int)) = false := decide_eq_false c8
        have c8b1 : decide (4096 < l0.length) = false := decide_eq_false (by omega)
        clear c8
        (first | rw [c8b0] | (simp only [i64_w, i32_w]; rw [c8b0]) | skip)
        have H' := Aside0.mk H
        clear H
        go_wp2_with (first | ((with_reducible refine gate_callee (f := 8) rfl ?_); refine goesL_ (some 16) rfl rfl Try.func8 (by kernel_rfl) rfl #[] rfl (by (try simp only [List.map_toArray, List.map_cons, List.map_nil]); first | done | rfl | (simp only [List.length_drop, List.length_take]; rfl)) ?_; (with_reducible refine (terrierlaw02_lives.calls k  true _ A6.out).mono ?_); rintro e w10 ⟨rfl, hb⟩; refine ⟨_, rfl, ?_⟩; have n0_ := Aside0.mk (below_step (by repeat (first | (with_reducible first | exact HB.out | apply below_alloc | apply pw_below_drewN | apply below_drew1) | exact HB.out | exact Below.refl _ _)) hb); clear HB; have HB := n0_; clear n0_; (try clear hb); (try clear hb2); (try clear hk); (try clear hi)))
        go_meet
        case rel => exact ⟨_, ((a2 == 0)), (by first | rfl | (simp; done) | (simp [*]; done)), H', ⟨by first | omega | exact Nat.le_refl _⟩, ⟨by repeat (first | (with_reducible first | exact HB.out | apply below_alloc | apply pw_below_drewN | apply below_drew1) | exact HB.out | exact Below.refl _ _)⟩⟩
    · replace c7 := Bool.eq_false_iff.mpr c7
      subst c7
      have H1 : (terrierlaw02_SumTurned.j0 k l0 a1 a2 a3 true) = some r := by rw [if_neg (show ¬ (false = true) by decide)] at H; exact H
      clear H
      have H := H1
      clear H1
      have H' := Aside0.mk H
      clear H
      go_wp2_with (first | ((with_reducible refine gate_callee (f := 8) rfl ?_); refine goesL_ (some 16) rfl rfl Try.func8 (by kernel_rfl) rfl #[] rfl (by (try simp only [List.map_toArray, List.map_cons, List.map_nil]); first | done | rfl | (simp only [List.length_drop, List.length_take]; rfl)) ?_; (with_reducible refine (terrierlaw02_lives.calls k  false _ A6.out).mono ?_); rintro e w11 ⟨rfl, hb⟩; refine ⟨_, rfl, ?_⟩; have n0_ := Aside0.mk (below_step (by repeat (first | (with_reducible first | exact HB.out | apply below_alloc | apply pw_below_drewN | apply below_drew1) | exact HB.out | exact Below.refl _ _)) hb); clear HB; have HB := n0_; clear n0_; (try clear hb); (try clear hb2); (try clear hk); (try clear hi)))
      go_meet
      case rel => exact ⟨_, (true), (by first | rfl | (simp; done) | (simp [*]; done)), H', ⟨by first | omega | exact Nat.le_refl _⟩, ⟨by repeat (first | (with_reducible first | exact HB.out | apply below_alloc | apply pw_below_drewN | apply below_drew1) | exact HB.out | exact Below.refl _ _)⟩⟩
  case rest =>
    clear HC5
    try clear p2
    try clear c7
    try clear c8
    try clear c8b0
    try clear c8b1
    obtain ⟨kq, x26_4, rfl, HA, HJ4, HB⟩ := hcut
    cases kq with
    | zero => exact absurd HA.out (by simp [terrierlaw02_SumTurned.j0])
    | succ kj4 =>
      have H := HA.out
      clear HA
      simp only [terrierlaw02_SumTurned.j0] at H
      by_cases c12 : x26_4 = true
      · subst c12
        have H1 : ((terrierlaw02_lives.f kj4).bind fun t279 => (some t279)) = some r := by rw [if_pos rfl] at H; exact H
        clear H
        have H := H1
        clear H1
        replace H := Option.bind_eq_some_iff.mp H
        obtain ⟨t279, A130, H⟩ := H
        replace H : (some t279) = some r := H
        have A13 := Aside0.mk A130
        clear A130
        obtain rfl := Option.some.inj H
        go_wp2_with (first | ((with_reducible refine gate_callee (f := 8) rfl ?_); refine goesL_ (some 27) rfl rfl Try.func8 (by kernel_rfl) rfl #[] rfl (by (try simp only [List.map_toArray, List.map_cons, List.map_nil]); first | done | rfl | (simp only [List.length_drop, List.length_take]; rfl)) ?_; (with_reducible refine (terrierlaw02_lives.calls kj4  t279 _ A13.out).mono ?_); rintro e w14 ⟨rfl, hb⟩; refine ⟨_, rfl, ?_⟩; have n0_ := Aside0.mk (below_step (by repeat (first | (with_reducible first | exact HB.out | apply below_alloc | apply pw_below_drewN | apply below_drew1) | exact HB.out | exact Below.refl _ _)) hb); clear HB; have HB := n0_; clear n0_; (try clear hb); (try clear hb2); (try clear hk); (try clear hi)))
        go_ret
        exact ⟨by first | rfl | (simp [errW_none, errW_some] <;> rfl) | (simp [*, errW_none, errW_some] <;> rfl), by repeat (first | (with_reducible first | exact HB.out | apply below_alloc | apply pw_below_drewN | apply below_drew1) | exact HB.out | exact Below.refl _ _)⟩
      · replace c12 := Bool.eq_false_iff.mpr c12
        subst c12
        have H1 : ((sum_Seal.f kj4 l0).bind fun t280 => (if (t280.length : Int) = (wrap64 ((l0.length : Int) + 4)) then (if a3 = true then (terrierlaw02_SumTurned.j1 kj4 a1 a2 t280 0 32) else (terrierlaw02_SumTurned.j1 kj4 a1 a2 t280 32 (wrap64 (8 * (t280.length : Int))))) else (some false))) = some r := by rw [if_neg (show ¬ (false = true) by decide)] at H; exact H
        clear H
        have H := H1
        clear H1
        replace H := Option.bind_eq_some_iff.mp H
        obtain ⟨t280, A150, H⟩ := H
        replace H : (if (t280.length : Int) = (wrap64 ((l0.length : Int) + 4)) then (if a3 = true then (terrierlaw02_SumTurned.j1 kj4 a1 a2 t280 0 32) else (terrierlaw02_SumTurned.j1 kj4 a1 a2 t280 32 (wrap64 (8 * (t280.length : Int))))) else (some false)) = some r := H
        have A15 := Aside0.mk A150
        clear A150
        by_cases c16 : (t280.length : Int) = (wrap64 ((l0.length : Int) + 4))
        · rw [if_pos c16] at H
          have c16b0 : ((t280.length : Int) == (wrap64 ((l0.length : Int) + 4))) = true := beq_iff_eq.mpr c16
          have c16b1 : ((t280.length : Int) != (wrap64 ((l0.length : Int) + 4))) = false := bne_eq_false_iff_eq.mpr c16
          clear c16
          have HC17 := Aside0.mk H
          clear H
          go_upto_if 39 with (first | ((with_reducible refine gate_callee (f := 12) rfl ?_); refine goesL_ (some 29) rfl rfl Try.func12 (by kernel_rfl) rfl #[.slice A0 l0.length c0] rfl (by (try simp only [List.map_toArray, List.map_cons, List.map_nil]); first | done | rfl | (simp only [List.length_drop, List.length_take]; rfl)) ?_; (with_reducible refine (sum_Seal.calls kj4 (fun k_ => k_ < w.heap.size) _ _ l0 t280 _ ?side1 A15.out).mono ?_); (case side1 => exact Kd.V_mk HC0.out (Kd.F_below (Kd.C_F (Kd.heap_int .u8) HR0.out) (by repeat (first | (with_reducible first | exact HB.out | apply below_alloc | apply pw_below_drewN | apply below_drew1) | exact HB.out | exact Below.refl _ _)))); rintro e w18 ⟨v281, rfl, ho0, hb⟩; refine ⟨_, rfl, ?_⟩; have n0_ := Aside0.mk (Kd.R_lower (Kd.R_mono (ok' := fun k_ => True) ho0 (fun _ hk_ => trivial)) (below_size (by repeat (first | (with_reducible first | exact HB.out | apply below_alloc | apply pw_below_drewN | apply below_drew1) | exact HB.out | exact Below.refl _ _)))); have n1_ := Aside0.mk (below_step (by repeat (first | (with_reducible first | exact HB.out | apply below_alloc | apply pw_below_drewN | apply below_drew1) | exact HB.out | exact Below.refl _ _)) hb); clear HB; have HO282 := n0_; have HB := n1_; clear n0_ n1_; (try clear hb); (try clear hb2); (try clear hk); (try clear hi); (try clear ho0); obtain ⟨Ao19, co19, eo19⟩ := Kd.R_slice HO282.out; subst eo19))
          (try simp only [Act.put, List.setIfInBounds_toArray, List.set_cons_zero, List.set_cons_succ])
          go_cut [10, 11] (fun v10 v11 wc => ∃ (kq : Nat) (x10_16 : Int) (x11_16 : Int), v10 = .int .i64 x10_16 ∧ v11 = .int .i64 x11_16 ∧ Aside0 (terrierlaw02_SumTurned.j1 kq a1 a2 t280 x10_16 x11_16 = some r) ∧ Aside0 (kq ≤ kj4) ∧ Aside0 (Kd.R (Kd.int .u8) 5 wc w.heap.size (fun _ => True) (.slice Ao19 t280.length co19) t280) ∧ Aside0 (Below w.heap.size w wc))
          case first =>
            have H := HC17.out
            clear HC17
            by_cases c20 : a3 = true
            · subst c20
              have H1 : (terrierlaw02_SumTurned.j1 kj4 a1 a2 t280 0 32) = some r := by rw [if_pos rfl] at H; exact H
              clear H
              have H := H1
              clear H1
              have H' := Aside0.mk H
              clear H
              go_wp2
              go_meet
              case rel => exact ⟨_, (0), (32), (by first | rfl | (simp; done) | (simp [*]; done)), (by first | rfl | (simp; done) | (simp [*]; done)), H', ⟨by have := HJ4.out; first | omega | exact Nat.le_refl _⟩, ⟨by (with_reducible repeat (first | apply Kd.R_alloc | apply Kd.R_drewN | apply Kd.R_drew)); exact HO282.out⟩, ⟨by repeat (first | (with_reducible first | exact HB.out | apply below_alloc | apply pw_below_drewN | apply below_drew1) | exact HB.out | exact Below.refl _ _)⟩⟩
            · replace c20 := Bool.eq_false_iff.mpr c20
              subst c20
              have H1 : (terrierlaw02_SumTurned.j1 kj4 a1 a2 t280 32 (wrap64 (8 * (t280.length : Int)))) = some r := by rw [if_neg (show ¬ (false = true) by decide)] at H; exact H
              clear H
              have H := H1
              clear H1
              have H' := Aside0.mk H
              clear H
              go_wp2
              go_meet
              case rel => exact ⟨_, (32), (wrap64 (8 * (t280.length : Int))), (by first | rfl | (simp; done) | (simp [*]; done)), (by first | rfl | (simp; done) | (simp [*]; done)), H', ⟨by have := HJ4.out; first | omega | exact Nat.le_refl _⟩, ⟨by (with_reducible repeat (first | apply Kd.R_alloc | apply Kd.R_drewN | apply Kd.R_drew)); exact HO282.out⟩, ⟨by repeat (first | (with_reducible first | exact HB.out | apply below_alloc | apply pw_below_drewN | apply below_drew1) | exact HB.out | exact Below.refl _ _)⟩⟩
          case rest =>
            clear HC17
            try clear c1
            try clear c2
            try clear p2
            try clear p6
            try clear c7
            try clear c8
            try clear c8b0
            try clear c8b1
            try clear c12
            try clear c16
            try clear c16b0
            try clear c16b1
            try clear c20
            try clear p2
            obtain ⟨kq, x10_16, x11_16, rfl, rfl, HA, HJ16, HO_9, HB⟩ := hcut
            cases kq with
            | zero => exact absurd HA.out (by simp [terrierlaw02_SumTurned.j1])
            | succ kj16 =>
              have H := HA.out
              clear HA
              simp only [terrierlaw02_SumTurned.j1] at H
              by_cases c21 : x10_16 = x11_16
              · rw [if_pos c21] at H
                have c21b0 : (x10_16 == x11_16) = true := beq_iff_eq.mpr c21
                have c21b1 : (x10_16 != x11_16) = false := bne_eq_false_iff_eq.mpr c21
                clear c21
                obtain rfl := Option.some.inj H
                go_wp2
                go_ret
                exact ⟨by first | rfl | (simp [errW_none, errW_some] <;> rfl) | (simp [*, errW_none, errW_some] <;> rfl), by repeat (first | (with_reducible first | exact HB.out | apply below_alloc | apply pw_below_drewN | apply below_drew1) | exact HB.out | exact Below.refl _ _)⟩
              · rw [if_neg c21] at H
                have c21b0 : (x10_16 == x11_16) = false := beq_eq_false_iff_ne.mpr c21
                have c21b1 : (x10_16 != x11_16) = true := bne_iff_ne.mpr c21
                by_cases c22 : (IntKind.u64.wrap (wrap64 (x11_16 - x10_16))) = 0
                · rw [if_pos c22] at H
                  exact absurd H (by simp)
                · rw [if_neg c22] at H
                  have c22b0 : ((IntKind.u64.wrap (wrap64 (x11_16 - x10_16))) == 0) = false := beq_eq_false_iff_ne.mpr c22
                  have c22b1 : ((IntKind.u64.wrap (wrap64 (x11_16 - x10_16))) != 0) = true := bne_iff_ne.mpr c22
                  have H' := Aside0.mk H
                  clear H
                  go_wp2
                  go_loopg [12, 13] kj16 (fun kq v12 v13 w' => ∃ (x9_3 : List Int) (x12_3 : Bool) (x13_3 : Int), v12 = .bool x12_3 ∧ v13 = .int .i64 x13_3 ∧ Aside0 (terrierlaw02_SumTurned.l0 kq (wrap64 (x10_16 + (wrap64 (Int.tmod (IntKind.u64.wrap (a1)) (IntKind.u64.wrap (wrap64 (x11_16 - x10_16))))))) a2 x9_3 x11_16 x12_3 x13_3 = some r) ∧ Aside0 (kq ≤ kj16) ∧ Aside0 (Kd.R (Kd.int .u8) 5 w' w.heap.size (fun _ => True) (.slice Ao19 t280.length co19) x9_3) ∧ Aside0 (Below w.heap.size w w'))
                  case atStart => exact ⟨(t280), (false), (0), (by first | rfl | (simp; done) | (simp [*]; done)), (by first | rfl | (simp; done) | (simp [*]; done)), H', ⟨Nat.le_refl _⟩, ⟨by (with_reducible repeat (first | apply Kd.R_alloc | apply Kd.R_drewN | apply Kd.R_drew)); exact HO_9.out⟩, ⟨by repeat (first | (with_reducible first | exact HB.out | apply below_alloc | apply pw_below_drewN | apply below_drew1) | exact HB.out | exact Below.refl _ _)⟩⟩
                  case round =>
                    clear H'
                    try clear c1
                    try clear c2
                    try clear p2
                    try clear p6
                    try clear c7
                    try clear c8
                    try clear c8b0
                    try clear c8b1
                    try clear c12
                    try clear c16
                    try clear c16b0
                    try clear c16b1
                    try clear c20
                    try clear c21
                    try clear c21b0
                    try clear c21b1
                    try clear c22
                    try clear c22b0
                    try clear c22b1
                    try clear p2
                    try clear p6
                    obtain ⟨x9_3, x12_3, x13_3, rfl, rfl, HA, HK3, HO_9, HB⟩ := hrel
                    have hl9_3 := (Kd.R_reads' HO_9.out).1
                    rw [hl9_3] at HO_9
                    (try simp only [hl9_3])
                    cases gk with
                    | zero => exact absurd HA.out (by simp [terrierlaw02_SumTurned.l0])
                    | succ k3 =>
                      have H := HA.out
                      clear HA
                      simp only [terrierlaw02_SumTurned.l0] at H
                      have HC23 := Aside0.mk H
                      clear H
                      go_upto_region 14 with (fail)
                      go_cut [61] (fun v61 wc => ∃ (kq : Nat) (x61_22 : Bool), v61 = .bool x61_22 ∧ Aside0 (terrierlaw02_SumTurned.j3 kq (wrap64 (x10_16 + (wrap64 (Int.tmod (IntKind.u64.wrap (a1)) (IntKind.u64.wrap (wrap64 (x11_16 - x10_16))))))) a2 x9_3 x11_16 x12_3 x13_3 x61_22 = some r) ∧ Aside0 (kq ≤ k3) ∧ Aside0 (Kd.R (Kd.int .u8) 5 wc w.heap.size (fun _ => True) (.slice Ao19 x9_3.length co19) x9_3) ∧ Aside0 (Below w.heap.size w wc))
                      case first =>
                        have H := HC23.out
                        clear HC23
                        by_cases c24 : x13_3 < 32
                        · rw [if_pos c24] at H
                          have c24b0 : decide (x13_3 < 32) = true := decide_eq_true c24
                          clear c24
                          (first | rw [c24b0] | (simp only [i64_w, i32_w]; rw [c24b0]) | skip)
                          have H' := Aside0.mk H
                          clear H
                          go_wp2
                          go_meet
                          case rel => exact ⟨_, (decide (x13_3 < (wrap64 (x11_16 - (wrap64 (x10_16 + (wrap64 (Int.tmod (IntKind.u64.wrap (a1)) (IntKind.u64.wrap (wrap64 (x11_16 - x10_16))))))))))), (by first | rfl | (simp; done) | (simp [*]; done)), H', ⟨by have := HJ4.out; have := HJ16.out; have := HK3.out; first | omega | exact Nat.le_refl _⟩, ⟨by (try simp only [hl9_3]); (with_reducible repeat (first | apply Kd.R_alloc | apply Kd.R_drewN | apply Kd.R_drew)); exact HO_9.out⟩, ⟨by repeat (first | (with_reducible first | exact HB.out | apply below_alloc | apply pw_below_drewN | apply below_drew1) | exact HB.out | exact Below.refl _ _)⟩⟩
                        · rw [if_neg c24] at H
                          have c24b0 : decide (x13_3 < 32) = false := decide_eq_false c24
                          clear c24
                          (first | rw [c24b0] | (simp only [i64_w, i32_w]; rw [c24b0]) | skip)
                          have H' := Aside0.mk H
                          clear H
                          go_wp2
                          go_meet
                          case rel => exact ⟨_, (false), (by first | rfl | (simp; done) | (simp [*]; done)), H', ⟨by have := HJ4.out; have := HJ16.out; have := HK3.out; first | omega | exact Nat.le_refl _⟩, ⟨by (try simp only [hl9_3]); (with_reducible repeat (first | apply Kd.R_alloc | apply Kd.R_drewN | apply Kd.R_drew)); exact HO_9.out⟩, ⟨by repeat (first | (with_reducible first | exact HB.out | apply below_alloc | apply pw_below_drewN | apply below_drew1) | exact HB.out | exact Below.refl _ _)⟩⟩
                      case rest =>
                        clear HC23
                        try clear c1
                        try clear c2
                        try clear p2
                        try clear p6
                        try clear c7
                        try clear c8
                        try clear c8b0
                        try clear c8b1
                        try clear c12
                        try clear c16
                        try clear c16b0
                        try clear c16b1
                        try clear c20
                        try clear c21
                        try clear c21b0
                        try clear c21b1
                        try clear c22
                        try clear c22b0
                        try clear c22b1
                        try clear c24
                        try clear c24b0
                        try clear p2
                        try clear p6
                        obtain ⟨kq, x61_22, rfl, HA, HJ22, HO_9, HB⟩ := hcut
                        cases kq with
                        | zero => exact absurd HA.out (by simp [terrierlaw02_SumTurned.j3])
                        | succ kj22 =>
                          have H := HA.out
                          clear HA
                          simp only [terrierlaw02_SumTurned.j3] at H
                          by_cases c25 : x61_22 = true
                          · subst c25
                            have H1 : (if 0 ≤ x13_3 then (if (Go.bits .and .u32 (shr .u32 a2 x13_3) 1) = 1 then (if 0 ≤ (wrap64 (Int.tdiv (wrap64 ((wrap64 (x10_16 + (wrap64 (Int.tmod (IntKind.u64.wrap (a1)) (IntKind.u64.wrap (wrap64 (x11_16 - x10_16))))))) + x13_3)) 8)) then (if (wrap64 (Int.tdiv (wrap64 ((wrap64 (x10_16 + (wrap64 (Int.tmod (IntKind.u64.wrap (a1)) (IntKind.u64.wrap (wrap64 (x11_16 - x10_16))))))) + x13_3)) 8)) < (x9_3.length : Int) then (if 0 ≤ (Int.tmod (wrap64 ((wrap64 (x10_16 + (wrap64 (Int.tmod (IntKind.u64.wrap (a1)) (IntKind.u64.wrap (wrap64 (x11_16 - x10_16))))))) + x13_3)) 8) then (terrierlaw02_SumTurned.l0 kj22 (wrap64 (x10_16 + (wrap64 (Int.tmod (IntKind.u64.wrap (a1)) (IntKind.u64.wrap (wrap64 (x11_16 - x10_16))))))) a2 (x9_3.set ((wrap64 (Int.tdiv (wrap64 ((wrap64 (x10_16 + (wrap64 (Int.tmod (IntKind.u64.wrap (a1)) (IntKind.u64.wrap (wrap64 (x11_16 - x10_16))))))) + x13_3)) 8)) : Int).toNat (Go.bits .xor .u8 (rd x9_3 (wrap64 (Int.tdiv (wrap64 ((wrap64 (x10_16 + (wrap64 (Int.tmod (IntKind.u64.wrap (a1)) (IntKind.u64.wrap (wrap64 (x11_16 - x10_16))))))) + x13_3)) 8))) (shl .u8 1 (Int.tmod (wrap64 ((wrap64 (x10_16 + (wrap64 (Int.tmod (IntKind.u64.wrap (a1)) (IntKind.u64.wrap (wrap64 (x11_16 - x10_16))))))) + x13_3)) 8)))) x11_16 true (wrap64 (x13_3 + 1))) else (none)) else (none)) else (none)) else (terrierlaw02_SumTurned.l0 kj22 (wrap64 (x10_16 + (wrap64 (Int.tmod (IntKind.u64.wrap (a1)) (IntKind.u64.wrap (wrap64 (x11_16 - x10_16))))))) a2 x9_3 x11_16 x12_3 (wrap64 (x13_3 + 1)))) else (none)) = some r := by rw [if_pos rfl] at H; exact H
                            clear H
                            have H := H1
                            clear H1
                            by_cases c26 : 0 ≤ x13_3
                            · rw [if_pos c26] at H
                              have c26b0 := eq_true c26
                              have c26b1 : decide (0 ≤ x13_3) = true := decide_eq_true c26
                              clear c26
                              obtain ⟨ji27, hji27⟩ : ∃ j_ : Int, (shr .u32 a2 x13_3) = j_ := ⟨_, rfl⟩
                              replace H : (if (Go.bits .and .u32 (ji27) 1) = 1 then (if 0 ≤ (wrap64 (Int.tdiv (wrap64 ((wrap64 (x10_16 + (wrap64 (Int.tmod (IntKind.u64.wrap (a1)) (IntKind.u64.wrap (wrap64 (x11_16 - x10_16))))))) + x13_3)) 8)) then (if (wrap64 (Int.tdiv (wrap64 ((wrap64 (x10_16 + (wrap64 (Int.tmod (IntKind.u64.wrap (a1)) (IntKind.u64.wrap (wrap64 (x11_16 - x10_16))))))) + x13_3)) 8)) < (x9_3.length : Int) then (if 0 ≤ (Int.tmod (wrap64 ((wrap64 (x10_16 + (wrap64 (Int.tmod (IntKind.u64.wrap (a1)) (IntKind.u64.wrap (wrap64 (x11_16 - x10_16))))))) + x13_3)) 8) then (terrierlaw02_SumTurned.l0 kj22 (wrap64 (x10_16 + (wrap64 (Int.tmod (IntKind.u64.wrap (a1)) (IntKind.u64.wrap (wrap64 (x11_16 - x10_16))))))) a2 (x9_3.set ((wrap64 (Int.tdiv (wrap64 ((wrap64 (x10_16 + (wrap64 (Int.tmod (IntKind.u64.wrap (a1)) (IntKind.u64.wrap (wrap64 (x11_16 - x10_16))))))) + x13_3)) 8)) : Int).toNat (Go.bits .xor .u8 (rd x9_3 (wrap64 (Int.tdiv (wrap64 ((wrap64 (x10_16 + (wrap64 (Int.tmod (IntKind.u64.wrap (a1)) (IntKind.u64.wrap (wrap64 (x11_16 - x10_16))))))) + x13_3)) 8))) (shl .u8 1 (Int.tmod (wrap64 ((wrap64 (x10_16 + (wrap64 (Int.tmod (IntKind.u64.wrap (a1)) (IntKind.u64.wrap (wrap64 (x11_16 - x10_16))))))) + x13_3)) 8)))) x11_16 true (wrap64 (x13_3 + 1))) else (none)) else (none)) else (none)) else (terrierlaw02_SumTurned.l0 kj22 (wrap64 (x10_16 + (wrap64 (Int.tmod (IntKind.u64.wrap (a1)) (IntKind.u64.wrap (wrap64 (x11_16 - x10_16))))))) a2 x9_3 x11_16 x12_3 (wrap64 (x13_3 + 1)))) = some r := by first | (rw [hji27] at H; exact H) | (simp only [hji27] at H ⊢; exact H)
                              have hji27_ : (a2 / 2 ^ min x13_3.toNat 32) = ji27 := hji27
                              have hji27z : x13_3 ≤ 32 → (a2 / 2 ^ x13_3.toNat) = ji27 := shr_small hji27
                              by_cases c28 : (Go.bits .and .u32 (ji27) 1) = 1
                              · rw [if_pos c28] at H
                                have c28b0 : ((Go.bits .and .u32 (ji27) 1) == 1) = true := beq_iff_eq.mpr c28
                                have c28b1 : ((Go.bits .and .u32 (ji27) 1) != 1) = false := bne_eq_false_iff_eq.mpr c28
                                clear c28
                                obtain ⟨ji29, hji29⟩ : ∃ j_ : Int, (wrap64 (Int.tdiv (wrap64 ((wrap64 (x10_16 + (wrap64 (Int.tmod (IntKind.u64.wrap (a1)) (IntKind.u64.wrap (wrap64 (x11_16 - x10_16))))))) + x13_3)) 8)) = j_ := ⟨_, rfl⟩
                                replace H : (if 0 ≤ (ji29) then (if (ji29) < (x9_3.length : Int) then (if 0 ≤ (Int.tmod (wrap64 ((wrap64 (x10_16 + (wrap64 (Int.tmod (IntKind.u64.wrap (a1)) (IntKind.u64.wrap (wrap64 (x11_16 - x10_16))))))) + x13_3)) 8) then (terrierlaw02_SumTurned.l0 kj22 (wrap64 (x10_16 + (wrap64 (Int.tmod (IntKind.u64.wrap (a1)) (IntKind.u64.wrap (wrap64 (x11_16 - x10_16))))))) a2 (x9_3.set ((ji29) : Int).toNat (Go.bits .xor .u8 (rd x9_3 (ji29)) (shl .u8 1 (Int.tmod (wrap64 ((wrap64 (x10_16 + (wrap64 (Int.tmod (IntKind.u64.wrap (a1)) (IntKind.u64.wrap (wrap64 (x11_16 - x10_16))))))) + x13_3)) 8)))) x11_16 true (wrap64 (x13_3 + 1))) else (none)) else (none)) else (none)) = some r := by first | (rw [hji29] at H; exact H) | (simp only [hji29] at H ⊢; exact H)
                                have hji29w : (IntKind.i64.wrap (Int.tdiv (wrap64 ((wrap64 (x10_16 + (wrap64 (Int.tmod (IntKind.u64.wrap (a1)) (IntKind.u64.wrap (wrap64 (x11_16 - x10_16))))))) + x13_3)) 8)) = ji29 := (i64_w _).trans hji29
                                by_cases c30 : 0 ≤ (ji29)
                                · rw [if_pos c30] at H
                                  have c30b0 : decide (0 ≤ (ji29)) = true := decide_eq_true c30
                                  clear c30
                                  by_cases c31 : (ji29) < (x9_3.length : Int)
                                  · rw [if_pos c31] at H
                                    have c31b0 : decide ((ji29) < (x9_3.length : Int)) = true := decide_eq_true c31
                                    clear c31
                                    obtain ⟨ji32, hji32⟩ : ∃ j_ : Int, (Int.tmod (wrap64 ((wrap64 (x10_16 + (wrap64 (Int.tmod (IntKind.u64.wrap (a1)) (IntKind.u64.wrap (wrap64 (x11_16 - x10_16))))))) + x13_3)) 8) = j_ := ⟨_, rfl⟩
                                    replace H : (if 0 ≤ (ji32) then (terrierlaw02_SumTurned.l0 kj22 (wrap64 (x10_16 + (wrap64 (Int.tmod (IntKind.u64.wrap (a1)) (IntKind.u64.wrap (wrap64 (x11_16 - x10_16))))))) a2 (x9_3.set ((ji29) : Int).toNat (Go.bits .xor .u8 (rd x9_3 (ji29)) (shl .u8 1 (ji32)))) x11_16 true (wrap64 (x13_3 + 1))) else (none)) = some r := by first | (rw [hji32] at H; exact H) | (simp only [hji32] at H ⊢; exact H)
                                    by_cases c33 : 0 ≤ (ji32)
                                    · rw [if_pos c33] at H
                                      have c33b0 := eq_true c33
                                      have c33b1 : decide (0 ≤ (ji32)) = true := decide_eq_true c33
                                      clear c33
                                      obtain ⟨ji34, hji34⟩ : ∃ j_ : Int, (shl .u8 1 (ji32)) = j_ := ⟨_, rfl⟩
                                      replace H : (terrierlaw02_SumTurned.l0 kj22 (wrap64 (x10_16 + (wrap64 (Int.tmod (IntKind.u64.wrap (a1)) (IntKind.u64.wrap (wrap64 (x11_16 - x10_16))))))) a2 (x9_3.set ((ji29) : Int).toNat (Go.bits .xor .u8 (rd x9_3 (ji29)) (ji34))) x11_16 true (wrap64 (x13_3 + 1))) = some r := by first | (rw [hji34] at H; exact H) | (simp only [hji34] at H ⊢; exact H)
                                      have hji34_ : (IntKind.u8.wrap (1 * 2 ^ min (ji32).toNat 8)) = ji34 := hji34
                                      have hji34z : (ji32) ≤ 8 → (IntKind.u8.wrap (1 * 2 ^ (ji32).toNat)) = ji34 := shl_small hji34
                                      have hji34u : (IntKind.u8.wrap (2 ^ min (ji32).toNat 8)) = ji34 := by have h_ := hji34_; rw [Int.one_mul] at h_; exact h_
                                      have hji34v : (ji32) ≤ 8 → (IntKind.u8.wrap (2 ^ (ji32).toNat)) = ji34 := fun hle_ => by have h_ := hji34z hle_; rw [Int.one_mul] at h_; exact h_
                                      obtain ⟨y284, hy284⟩ : ∃ y_ : List Int, y_ = (x9_3.set ((ji29) : Int).toNat (Go.bits .xor .u8 (rd x9_3 (ji29)) (ji34))) := ⟨_, rfl⟩
                                      replace H : (terrierlaw02_SumTurned.l0 kj22 (wrap64 (x10_16 + (wrap64 (Int.tmod (IntKind.u64.wrap (a1)) (IntKind.u64.wrap (wrap64 (x11_16 - x10_16))))))) a2 y284 x11_16 true (wrap64 (x13_3 + 1))) = some r := by first | (rw [hy284]; with_reducible exact H) | (have H2_ := (Option.bind_some _ _).symm.trans H; rw [hy284]; with_reducible exact H2_) | (have H2_ := (Option.bind_some _ _).symm.trans H; with_reducible exact H2_) | with_reducible exact H | (rw [hy284]; exact H) | exact H
                                      have Ny284 := Aside0.mk hy284
                                      clear hy284
                                      have H' := Aside0.mk H
                                      clear H
                                      try go_wp2
                                      have n0_ := Aside0.mk (Kd.R_drew HO_9.out)
                                      have n1_ := Aside0.mk (below_drew1 HB.out)
                                      clear HO_9
                                      clear HB
                                      have HO_9 := n0_
                                      have HB := n1_
                                      clear n0_ n1_
                                      have p283 : 0 ≤ ((ji29) : Int) := of_decide_eq_true (by first | (with_reducible assumption) | assumption)
                                      have q283 : (ji29) < (x9_3.length : Int) := of_decide_eq_true (by first | (with_reducible assumption) | assumption)
                                      obtain ⟨ad283, e283, hx283_0⟩ := Kd.at_int (Kd.R_reads' HO_9.out).2.2 (ji29) p283 q283
                                      cases e283
                                      replace p283 := eq_true p283
                                      replace q283 := eq_true q283
                                      have p35 : 0 ≤ ((ji29) : Int) := of_decide_eq_true (by first | (with_reducible assumption) | assumption)
                                      have q35 : ((ji29) : Int) < ((x9_3.length : Int) : Int) := of_decide_eq_true (by first | (with_reducible assumption) | assumption)
                                      obtain ⟨go35, co35, eo35, gb35, gl35, cl35, HG35⟩ := Kd.R_form HO_9.out (by omega)
                                      (first | cases eo35 | (injection eo35 with ea_ en_ ec_; (first | subst ea_ | (injection ea_ with ea_; subst ea_)); subst ec_; clear en_))
                                      have GB35 := Aside0.mk gb35
                                      have GG35 := Aside0.mk HG35
                                      clear gb35 gl35 HG35
                                      (first | simp only [add_plain] at hx283_0 | skip)
                                      obtain ⟨hx35_0, hf35_0⟩ := Kd.R_celln 0 HO_9.out ((ji29) : Int) p35 q35
                                      replace p35 := eq_true p35
                                      replace q35 := eq_true q35
                                      have HP37 := Kd.R_putn HO_9.out ((ji29) : Int) (Go.bits .xor .u8 (rd x9_3 (ji29)) (ji34))
                                      rw [← Ny284.out] at HP37
                                      have HQ37 := Aside0.mk HP37
                                      clear HP37
                                      refine start_ (n := 15) (S := fun w' => w'.cell? ⟨go35, ((ji29)).toNat, none⟩ = some (.int .u8 (rd x9_3 (ji29)))) (ds := [14]) #[false, false, false, false, false, false, false, false, false, false, false, false, false, false, false] (by kernel_rfl) rfl rfl (hx283_0) (fun hHeld => ?_); refine with_tabW terrierlaw02_SumTurned.tab17 terrierlaw02_SumTurned.bits17 (fun HT_ HW_ => ?_)
                                      generalize wc.drew = w36 at HO_9 HB GG35 HQ37 hf35_0 hx283_0 hx35_0 hHeld ⊢
                                      refine pure_ (i := 0) (N := some 69) (v := ?_) (a' := ?_) #[true, false, false, false, false, false, false, false, false, false, false, false, false, false, false] rfl rfl (any_of HT_.out (by kernel_rfl)) (fun _ _ _ h => h) (Or.inl ⟨by rfl, ?_⟩) ?_ ?_
                                      rotate_left
                                      · intro w'
                                        go_simp
                                        with_reducible rfl
                                      rotate_left
                                      · simp only [Act.put, List.setIfInBounds_toArray, List.set_cons_zero, List.set_cons_succ, i64_w, i32_w]
                                        rfl
                                      refine pure_ (i := 1) (N := some 70) (v := ?_) (a' := ?_) #[true, true, false, false, false, false, false, false, false, false, false, false, false, false, false] rfl rfl (any_of HT_.out (by kernel_rfl)) (fun _ _ _ h => h) (Or.inl ⟨by rfl, ?_⟩) ?_ ?_
                                      rotate_left
                                      · intro w'
                                        go_simp
                                        with_reducible rfl
                                      rotate_left
                                      · simp only [Act.put, List.setIfInBounds_toArray, List.set_cons_zero, List.set_cons_succ, i64_w, i32_w]
                                        rfl
                                      refine pure_ (i := 2) (N := some 71) (v := ?_) (a' := ?_) #[true, true, true, false, false, false, false, false, false, false, false, false, false, false, false] rfl rfl (any_of HT_.out (by kernel_rfl)) (fun _ _ _ h => h) (Or.inl ⟨by rfl, ?_⟩) ?_ ?_
                                      rotate_left
                                      · intro w'
                                        go_simp
                                        with_reducible rfl
                                      rotate_left
                                      · simp only [Act.put, List.setIfInBounds_toArray, List.set_cons_zero, List.set_cons_succ, i64_w, i32_w]
                                        rfl
                                      refine pure_ (i := 3) (N := some 72) (v := ?_) (a' := ?_) #[true, true, true, true, false, false, false, false, false, false, false, false, false, false, false] rfl rfl (any_of HT_.out (by kernel_rfl)) (fun _ _ _ h => h) (Or.inl ⟨by rfl, ?_⟩) ?_ ?_
                                      rotate_left
                                      · intro w'
                                        go_simp
                                        with_reducible rfl
                                      rotate_left
                                      · simp only [Act.put, List.setIfInBounds_toArray, List.set_cons_zero, List.set_cons_succ, i64_w, i32_w]
                                        rfl
                                      refine pure_ (i := 4) (N := some 73) (v := ?_) (a' := ?_) #[true, true, true, true, true, false, false, false, false, false, false, false, false, false, false] rfl rfl (any_of HT_.out (by kernel_rfl)) (fun _ _ _ h => h) (Or.inl ⟨by rfl, ?_⟩) ?_ ?_
                                      rotate_left
                                      · intro w'
                                        go_simp
                                        with_reducible rfl
                                      rotate_left
                                      · simp only [Act.put, List.setIfInBounds_toArray, List.set_cons_zero, List.set_cons_succ, i64_w, i32_w]
                                        rfl
                                      refine pure_ (i := 5) (N := some 74) (v := ?_) (a' := ?_) #[true, true, true, true, true, true, false, false, false, false, false, false, false, false, false] rfl rfl (any_of HT_.out (by kernel_rfl)) (fun _ _ _ h => h) (Or.inl ⟨by rfl, ?_⟩) ?_ ?_
                                      rotate_left
                                      · intro w'
                                        go_simp
                                        with_reducible rfl
                                      rotate_left
                                      · simp only [Act.put, List.setIfInBounds_toArray, List.set_cons_zero, List.set_cons_succ, i64_w, i32_w]
                                        rfl
                                      refine pure_ (i := 7) (N := some 76) (v := ?_) (a' := ?_) #[true, true, true, true, true, true, false, true, false, false, false, false, false, false, false] rfl rfl (any_of HT_.out (by kernel_rfl)) (fun _ _ _ h => h) (Or.inl ⟨by rfl, ?_⟩) ?_ ?_
                                      rotate_left
                                      · intro w'
                                        go_simp
                                        with_reducible rfl
                                      rotate_left
                                      · simp only [Act.put, List.setIfInBounds_toArray, List.set_cons_zero, List.set_cons_succ, i64_w, i32_w]
                                        rfl
                                      refine pure_ (i := 8) (N := some 77) (v := ?_) (a' := ?_) #[true, true, true, true, true, true, false, true, true, false, false, false, false, false, false] rfl rfl (any_of HT_.out (by kernel_rfl)) (fun _ _ _ h => h) (Or.inl ⟨by rfl, ?_⟩) ?_ ?_
                                      rotate_left
                                      · intro w'
                                        go_simp
                                        with_reducible rfl
                                      rotate_left
                                      · simp only [Act.put, List.setIfInBounds_toArray, List.set_cons_zero, List.set_cons_succ, i64_w, i32_w]
                                        rfl
                                      refine pure_ (i := 9) (N := some 78) (v := ?_) (a' := ?_) #[true, true, true, true, true, true, false, true, true, true, false, false, false, false, false] rfl rfl (any_of HT_.out (by kernel_rfl)) (fun _ _ _ h => h) (Or.inl ⟨by rfl, ?_⟩) ?_ ?_
                                      rotate_left
                                      · intro w'
                                        go_simp
                                        with_reducible rfl
                                      rotate_left
                                      · simp only [Act.put, List.setIfInBounds_toArray, List.set_cons_zero, List.set_cons_succ, i64_w, i32_w]
                                        rfl
                                      refine pure_ (i := 10) (N := some 79) (v := ?_) (a' := ?_) #[true, true, true, true, true, true, false, true, true, true, true, false, false, false, false] rfl rfl (any_of HT_.out (by kernel_rfl)) (fun _ _ _ h => h) (Or.inl ⟨by rfl, ?_⟩) ?_ ?_
                                      rotate_left
                                      · intro w'
                                        go_simp
                                        with_reducible rfl
                                      rotate_left
                                      · simp only [Act.put, List.setIfInBounds_toArray, List.set_cons_zero, List.set_cons_succ, i64_w, i32_w]
                                        rfl
                                      refine pure_ (i := 11) (N := some 80) (v := ?_) (a' := ?_) #[true, true, true, true, true, true, false, true, true, true, true, true, false, false, false] rfl rfl (any_of HT_.out (by kernel_rfl)) (fun _ _ _ h => h) (Or.inl ⟨by rfl, ?_⟩) ?_ ?_
                                      rotate_left
                                      · intro w'
                                        go_simp
                                        with_reducible rfl
                                      rotate_left
                                      · simp only [Act.put, List.setIfInBounds_toArray, List.set_cons_zero, List.set_cons_succ, i64_w, i32_w]
                                        rfl
                                      refine take_ (i := 6) (N := some 75) (v := ?_) (a' := ?_) #[true, true, true, true, true, true, true, true, true, true, true, true, false, false, false] rfl rfl (take_ofW HT_.out HW_.out (by kernel_rfl)) (fun _ _ _ h => h) (Or.inl ⟨by rfl, ?_⟩) hHeld ?_ ?_
                                      rotate_left
                                      · intro w' s0
                                        go_simp
                                        with_reducible rfl
                                      rotate_left
                                      · simp only [Act.put, List.setIfInBounds_toArray, List.set_cons_zero, List.set_cons_succ, i64_w, i32_w]
                                        rfl
                                      refine pure_ (i := 12) (N := some 81) (v := ?_) (a' := ?_) #[true, true, true, true, true, true, true, true, true, true, true, true, true, false, false] rfl rfl (any_of HT_.out (by kernel_rfl)) (fun _ _ _ h => h) (Or.inl ⟨by rfl, ?_⟩) ?_ ?_
                                      rotate_left
                                      · intro w'
                                        go_simp
                                        with_reducible rfl
                                      rotate_left
                                      · simp only [Act.put, List.setIfInBounds_toArray, List.set_cons_zero, List.set_cons_succ, i64_w, i32_w]
                                        rfl
                                      refine pure_ (i := 13) (N := some 82) (v := ?_) (a' := ?_) #[true, true, true, true, true, true, true, true, true, true, true, true, true, true, false] rfl rfl (any_of HT_.out (by kernel_rfl)) (fun _ _ _ h => h) (Or.inl ⟨by rfl, ?_⟩) ?_ ?_
                                      rotate_left
                                      · intro w'
                                        go_simp
                                        with_reducible rfl
                                      rotate_left
                                      · simp only [Act.put, List.setIfInBounds_toArray, List.set_cons_zero, List.set_cons_succ, i64_w, i32_w]
                                        rfl
                                      refine last_ (i := 14) (N := none) #[true, true, true, true, true, true, true, true, true, true, true, true, true, true, true] rfl rfl (one_of HT_.out (by kernel_rfl)) (by decide) (fun K hK => ?_)
                                      refine skip_ (w1 := ?_) (by rfl) rfl ?_ ?_
                                      rotate_left
                                      · go_simp
                                        rfl
                                      refine hK.out _ _ ?_
                                      clear hK K
                                      refine done_ (done_of HT_.out (by kernel_rfl)) ?_
                                      try go_wp2
                                      (try simp only [← hl9_3])
                                      go_roundg kj22
                                      case measure => have := HJ4.out; have := HJ16.out; have := HK3.out; have := HJ22.out; omega
                                      case rel => exact ⟨(y284), (true), (wrap64 (x13_3 + 1)), (by first | rfl | (simp; done) | (simp [*]; done)), (by first | rfl | (simp; done) | (simp [*]; done)), H', ⟨by have := HJ4.out; have := HJ16.out; have := HK3.out; have := HJ22.out; omega⟩, ⟨by (try simp only [hl9_3]); (with_reducible repeat (first | apply Kd.R_alloc | apply Kd.R_drewN | apply Kd.R_drew)); exact HQ37.out⟩, ⟨by repeat (first | (with_reducible first | exact HB.out | apply below_alloc | apply pw_below_drewN | apply below_drew1 | refine below_set ?_ GB35.out) | exact HB.out | exact Below.refl _ _)⟩⟩
                                    · rw [if_neg c33] at H
                                      exact absurd H (by simp)
                                  · rw [if_neg c31] at H
                                    exact absurd H (by simp)
                                · rw [if_neg c30] at H
                                  exact absurd H (by simp)
                              · rw [if_neg c28] at H
                                have c28b0 : ((Go.bits .and .u32 (ji27) 1) == 1) = false := beq_eq_false_iff_ne.mpr c28
                                have c28b1 : ((Go.bits .and .u32 (ji27) 1) != 1) = true := bne_iff_ne.mpr c28
                                have H' := Aside0.mk H
                                clear H
                                go_wp2
                                (try simp only [← hl9_3])
                                go_roundg kj22
                                case measure => have := HJ4.out; have := HJ16.out; have := HK3.out; have := HJ22.out; omega
                                case rel => exact ⟨(x9_3), (x12_3), (wrap64 (x13_3 + 1)), (by first | rfl | (simp; done) | (simp [*]; done)), (by first | rfl | (simp; done) | (simp [*]; done)), H', ⟨by have := HJ4.out; have := HJ16.out; have := HK3.out; have := HJ22.out; omega⟩, ⟨by (try simp only [hl9_3]); (with_reducible repeat (first | apply Kd.R_alloc | apply Kd.R_drewN | apply Kd.R_drew)); exact HO_9.out⟩, ⟨by repeat (first | (with_reducible first | exact HB.out | apply below_alloc | apply pw_below_drewN | apply below_drew1) | exact HB.out | exact Below.refl _ _)⟩⟩
                            · rw [if_neg c26] at H
                              exact absurd H (by simp)
                          · replace c25 := Bool.eq_false_iff.mpr c25
                            subst c25
                            have H1 : ((sum_Open.f kj22 x9_3).bind fun bt285 => (if (x12_3 == (bt285.2 == 6)) = true then (some (x12_3 == (bt285.2 != 0))) else (some false))) = some r := by rw [if_neg (show ¬ (false = true) by decide)] at H; exact H
                            clear H
                            have H := H1
                            clear H1
                            replace H := Option.bind_eq_some_iff.mp H
                            obtain ⟨⟨t285, t288⟩, A380, H⟩ := H
                            replace H : (if (x12_3 == (t288 == 6)) = true then (some (x12_3 == (t288 != 0))) else (some false)) = some r := H
                            have A38 := Aside0.mk A380
                            clear A380
                            by_cases c39 : (x12_3 == (t288 == 6)) = true
                            · rw [if_pos c39] at H
                              have c39b0 : (x12_3 == (t288 == 6)) = true := c39
                              (try (have c39b1 : decide (x12_3 = (t288 == 6)) = true := by simpa using c39))
                              (try (have c39b2 : (x12_3 == (t288 == 6)) = true := by simpa using c39))
                              clear c39
                              obtain rfl := Option.some.inj H
                              go_wp2_with (first | ((with_reducible refine gate_callee (f := 13) rfl ?_); refine goesL_ (some 85) rfl rfl Try.func13 (by kernel_rfl) rfl #[.slice Ao19 x9_3.length co19] rfl (by (try simp only [List.map_toArray, List.map_cons, List.map_nil]); first | done | rfl | (simp only [List.length_drop, List.length_take]; rfl)) ?_; (with_reducible refine (sum_Open.calls kj22 (fun k_ => some k_ = (.slice Ao19 x9_3.length co19 : Value).ownBlock) _ _ x9_3 t285 t288 _ ?side1 A38.out).mono ?_); (case side1 => exact Kd.R_V (Kd.R_tight rfl (HO_9.out))); rintro e w40 ⟨v286, rfl, ho0, hb⟩; refine ⟨_, rfl, ?_⟩; have n0_ := Aside0.mk (Kd.R_elder' (by (with_reducible repeat (first | apply Kd.R_alloc | apply Kd.R_drewN | apply Kd.R_drew)); exact HO_9.out) (Kd.R_base ho0) hb); have n1_ := Aside0.mk (Kd.R_lower (Kd.R_new' (Kd.R_mono (ok' := fun k_ => True) ho0 (fun _ hk_ => trivial)) (Kd.R_lt (by (with_reducible repeat (first | apply Kd.R_alloc | apply Kd.R_drewN | apply Kd.R_drew)); exact HO_9.out))) (below_size (by repeat (first | (with_reducible first | exact HB.out | apply below_alloc | apply pw_below_drewN | apply below_drew1) | exact HB.out | exact Below.refl _ _)))); have n2_ := Aside0.mk (below_step (by repeat (first | (with_reducible first | exact HB.out | apply below_alloc | apply pw_below_drewN | apply below_drew1) | exact HB.out | exact Below.refl _ _)) hb); clear HO_9; clear HB; have HO_9 := n0_; have HO287 := n1_; have HB := n2_; clear n0_ n1_ n2_; (try clear hb); (try clear hb2); (try clear hk); (try clear hi); (try clear ho0)))
                              go_ret
                              exact ⟨by first | rfl | (simp [errW_none, errW_some] <;> rfl) | (simp [*, errW_none, errW_some] <;> rfl), by repeat (first | (with_reducible first | exact HB.out | apply below_alloc | apply pw_below_drewN | apply below_drew1) | exact HB.out | exact Below.refl _ _)⟩
                            · rw [if_neg c39] at H
                              have c39b0 : (x12_3 == (t288 == 6)) = false := by simpa using c39
                              (try (have c39b1 : decide (x12_3 = (t288 == 6)) = false := by simpa using c39))
                              (try (have c39b2 : (x12_3 == (t288 == 6)) = false := by simpa using c39))
                              (try (have c39b3 : ¬ (x12_3 = (t288 == 6)) := by simpa using c39))
                              clear c39
                              obtain rfl := Option.some.inj H
                              go_wp2_with (first | ((with_reducible refine gate_callee (f := 13) rfl ?_); refine goesL_ (some 85) rfl rfl Try.func13 (by kernel_rfl) rfl #[.slice Ao19 x9_3.length co19] rfl (by (try simp only [List.map_toArray, List.map_cons, List.map_nil]); first | done | rfl | (simp only [List.length_drop, List.length_take]; rfl)) ?_; (with_reducible refine (sum_Open.calls kj22 (fun k_ => some k_ = (.slice Ao19 x9_3.length co19 : Value).ownBlock) _ _ x9_3 t285 t288 _ ?side1 A38.out).mono ?_); (case side1 => exact Kd.R_V (Kd.R_tight rfl (HO_9.out))); rintro e w41 ⟨v286, rfl, ho0, hb⟩; refine ⟨_, rfl, ?_⟩; have n0_ := Aside0.mk (Kd.R_elder' (by (with_reducible repeat (first | apply Kd.R_alloc | apply Kd.R_drewN | apply Kd.R_drew)); exact HO_9.out) (Kd.R_base ho0) hb); have n1_ := Aside0.mk (Kd.R_lower (Kd.R_new' (Kd.R_mono (ok' := fun k_ => True) ho0 (fun _ hk_ => trivial)) (Kd.R_lt (by (with_reducible repeat (first | apply Kd.R_alloc | apply Kd.R_drewN | apply Kd.R_drew)); exact HO_9.out))) (below_size (by repeat (first | (with_reducible first | exact HB.out | apply below_alloc | apply pw_below_drewN | apply below_drew1) | exact HB.out | exact Below.refl _ _)))); have n2_ := Aside0.mk (below_step (by repeat (first | (with_reducible first | exact HB.out | apply below_alloc | apply pw_below_drewN | apply below_drew1) | exact HB.out | exact Below.refl _ _)) hb); clear HO_9; clear HB; have HO_9 := n0_; have HO287 := n1_; have HB := n2_; clear n0_ n1_ n2_; (try clear hb); (try clear hb2); (try clear hk); (try clear hi); (try clear ho0)))
                              go_ret
                              exact ⟨by first | rfl | (simp [errW_none, errW_some] <;> rfl) | (simp [*, errW_none, errW_some] <;> rfl), by repeat (first | (with_reducible first | exact HB.out | apply below_alloc | apply pw_below_drewN | apply below_drew1) | exact HB.out | exact Below.refl _ _)⟩
        · rw [if_neg c16] at H
          have c16b0 : ((t280.length : Int) == (wrap64 ((l0.length : Int) + 4))) = false := beq_eq_false_iff_ne.mpr c16
          have c16b1 : ((t280.length : Int) != (wrap64 ((l0.length : Int) + 4))) = true := bne_iff_ne.mpr c16
          obtain rfl := Option.some.inj H
          go_wp2_with (first | ((with_reducible refine gate_callee (f := 12) rfl ?_); refine goesL_ (some 29) rfl rfl Try.func12 (by kernel_rfl) rfl #[.slice A0 l0.length c0] rfl (by (try simp only [List.map_toArray, List.map_cons, List.map_nil]); first | done | rfl | (simp only [List.length_drop, List.length_take]; rfl)) ?_; (with_reducible refine (sum_Seal.calls kj4 (fun k_ => k_ < w.heap.size) _ _ l0 t280 _ ?side1 A15.out).mono ?_); (case side1 => exact Kd.V_mk HC0.out (Kd.F_below (Kd.C_F (Kd.heap_int .u8) HR0.out) (by repeat (first | (with_reducible first | exact HB.out | apply below_alloc | apply pw_below_drewN | apply below_drew1) | exact HB.out | exact Below.refl _ _)))); rintro e w42 ⟨v281, rfl, ho0, hb⟩; refine ⟨_, rfl, ?_⟩; have n0_ := Aside0.mk (Kd.R_lower (Kd.R_mono (ok' := fun k_ => True) ho0 (fun _ hk_ => trivial)) (below_size (by repeat (first | (with_reducible first | exact HB.out | apply below_alloc | apply pw_below_drewN | apply below_drew1) | exact HB.out | exact Below.refl _ _)))); have n1_ := Aside0.mk (below_step (by repeat (first | (with_reducible first | exact HB.out | apply below_alloc | apply pw_below_drewN | apply below_drew1) | exact HB.out | exact Below.refl _ _)) hb); clear HB; have HO282 := n0_; have HB := n1_; clear n0_ n1_; (try clear hb); (try clear hb2); (try clear hk); (try clear hi); (try clear ho0); obtain ⟨Ao43, co43, eo43⟩ := Kd.R_slice HO282.out; subst eo43))
          go_ret
          exact ⟨by first | rfl | (simp [errW_none, errW_some] <;> rfl) | (simp [*, errW_none, errW_some] <;> rfl), by repeat (first | (with_reducible first | exact HB.out | apply below_alloc | apply pw_below_drewN | apply below_drew1) | exact HB.out | exact Below.refl _ _)⟩

/-- THE ONE PURE STATEMENT of terrierlaw02_SumTurned: yours. -/
def terrierlaw02_SumTurned.Pure : Prop := ∀ (l0 : List Int) (a1 : Int) (a2 : Int) (a3 : Bool), l0.length ≤ maxLen → l0.length * 1 ≤ 140737488351232 → (∀ x ∈ l0, (Lit.int .u8 x).wf = true) → (Lit.int .i64 a1).wf = true → (Lit.int .u32 a2).wf = true → ∃ k, terrierlaw02_SumTurned.f k l0 a1 a2 a3 = some true
theorem terrierlaw02_SumTurned.walk (P : terrierlaw02_SumTurned.Pure) (a0 : Option Addr) (len0 cap0 : Nat) (z0 : List Int) (a1 : Int) (a2 : Int) (a3 : Bool) (w : World) (w0 : (a0 = none ∧ len0 = 0 ∧ cap0 = 0 ∧ z0 = []) ∨ ∃ x, a0 = some x ∧ len0 ≤ cap0 ∧ cap0 ≤ maxLen ∧ z0.length = cap0 ∧ (∀ i, i < z0.length → w.cell? (x.add i) = some (.int .u8 (z0.getD i 0))) ∧ ∀ n ∈ z0, (Lit.int .u8 n).wf = true) (y0 : len0 * 1 ≤ 140737488351232) (w1 : (Lit.int .i64 a1).wf = true) (w2 : (Lit.int .u32 a2).wf = true) :
    Calls Try.prog 7 #[.slice a0 len0 cap0, .int .i64 a1, .int .u32 a2, .bool a3] w fun e w' => e = .returned (.bool true) ∧ Below w.heap.size w w' := by
  obtain ⟨l0, rfl, hr0, hm0, hw0, hc0⟩ := ReadsInt.ofRowC w0
  obtain ⟨k, h⟩ := P l0 a1 a2 a3 hm0 y0 hw0 w1 w2
  refine (terrierlaw02_SumTurned.calls k _ _ l0 a1 a2 a3 true w (Kd.C_of_reads (d := (0 : Int)) (h1 := fun _ => rfl) hr0) hc0 h).mono ?_
  rintro e w' ⟨rfl, hd⟩
  exact ⟨rfl, hd⟩

end Go.Proofs.Ytmaoppljldllfaa.PS
