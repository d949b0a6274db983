-- Written by wip/printx.py, a program of this work over the kit's print, for this claim.
import Derived.Test.YtleonalpeicjaaaPSx0
import Derived.Test.YtleonalpeicjaaaPSx28
import Derived.Test.YtleonalpeicjaaaPSx29
import Derived.Test.YtleonalpeicjaaaPSx30
import Derived.Test.YtleonalpeicjaaaPSx32
import Derived.Test.YtleonalpeicjaaaPSx33
import Derived.Test.YtleonalpeicjaaaPSx34
import Derived.Test.YtleonalpeicjaaaPSx35
import Derived.Test.YtleonalpeicjaaaPSx36
namespace Go.Proofs.Ytleonalpeicjaaa.PS
open Go.RowKit Go.Proofs.YtleonalpeicjaaaW.PrintWords Go.Proofs.YtleonalpeicjaaaW.PrintLast Go.Proofs.YtleonalpeicjaaaW.PrintMore
attribute [local go_sem] max2_int min2_int max_two min_two max_three min_three max_four min_four   -- for this text's walks alone
attribute [local go_sem] Ext.pick_u8 Ext.pick_u32 Ext.pick_u64
set_option linter.unusedVariables false
set_option linter.unusedSimpArgs false

/-! ### terrierlaw01_OctetsStops: function 10 -/
mutual
def terrierlaw01_OctetsStops.l0 : Nat → List Int → List (S42) → Int → Int → List Int → Int → Int → Option (Bool)
  | 0, _, _, _, _, _, _, _ => none
  | k + 1, x0, x24, x25, x26, x369000, x369001, x369002 => if x26 < x25 then (if 0 ≤ x26 then (if x26 < (x24.length : Int) then ((octets_Reader_End.f x369000 x369001 x369002).bind fun bt381 => ((octets_Reader_At.f x369000 bt381.2.1 bt381.2.2).bind fun bt384 => (if ((rd_T42 x24 x26).f0) = 0 then ((octets_Reader_Num.f k x369000 bt384.2.1 bt384.2.2 ((rd_T42 x24 x26).f1)).bind fun bt387 => (terrierlaw01_OctetsStops.j1 k x0 bt381.1 bt384.1 bt387.1 0 false x24 x25 x26 x369000 bt387.2.1 bt387.2.2)) else (if ((rd_T42 x24 x26).f0) = 1 then ((octets_Reader_Bytes.f x369000 bt384.2.1 bt384.2.2 ((rd_T42 x24 x26).f1)).bind fun bt390 => (terrierlaw01_OctetsStops.j1 k x0 bt381.1 bt384.1 0 (bt390.1.length : Int) false x24 x25 x26 x369000 bt390.2.1 bt390.2.2)) else (if ((rd_T42 x24 x26).f0) = 2 then ((octets_Reader_Text.f k x369000 bt384.2.1 bt384.2.2 ((rd_T42 x24 x26).f1)).bind fun bt395 => (terrierlaw01_OctetsStops.j1 k x0 bt381.1 bt384.1 0 (bt395.1.length : Int) false x24 x25 x26 x369000 bt395.2.1 bt395.2.2)) else ((octets_Reader_Flag.f k x369000 bt384.2.1 bt384.2.2).bind fun bt400 => (terrierlaw01_OctetsStops.j1 k x0 bt381.1 bt384.1 0 0 bt400.1 x24 x25 x26 x369000 bt400.2.1 bt400.2.2))))))) else (none)) else (none)) else ((octets_NewReader.f (([9] : List Int))).bind fun bt372 => ((octets_Reader_End.f bt372.1 bt372.2.1 bt372.2.2).bind fun bt376 => (some (bt376.1 == 5))))
def terrierlaw01_OctetsStops.j1 : Nat → List Int → Int → Int → Int → Int → Bool → List (S42) → Int → Int → List Int → Int → Int → Option (Bool)
  | 0, _, _, _, _, _, _, _, _, _, _, _, _ => none
  | k + 1, x0, x8, x9, x10, x11, x12, x24, x25, x26, x369000, x369001, x369002 => (octets_Reader_At.f x369000 x369001 x369002).bind fun bt403 => (if bt403.1 < x9 then (some false) else ((octets_Reader_At.f x369000 bt403.2.1 bt403.2.2).bind fun bt406 => (if bt406.1 > (x0.length : Int) then (some false) else (if x8 = 0 then (terrierlaw01_OctetsStops.l0 k x0 x24 x25 (wrap64 (x26 + 1)) x369000 bt406.2.1 bt406.2.2) else (if x8 = 5 then (terrierlaw01_OctetsStops.l0 k x0 x24 x25 (wrap64 (x26 + 1)) x369000 bt406.2.1 bt406.2.2) else ((octets_Reader_End.f x369000 bt406.2.1 bt406.2.2).bind fun bt409 => (if bt409.1 = x8 then ((octets_Reader_At.f x369000 bt409.2.1 bt409.2.2).bind fun bt412 => (if bt412.1 = x9 then (if x10 = 0 then (if x11 = 0 then (if x12 = true then (some false) else (terrierlaw01_OctetsStops.l0 k x0 x24 x25 (wrap64 (x26 + 1)) x369000 bt412.2.1 bt412.2.2)) else (some false)) else (some false)) else (some false))) else (some false))))))))
end
def terrierlaw01_OctetsStops.f (k : Nat) (l0 : List Int) (l1 : List (S42)) : Option (Bool) := (octets_NewReader.f l0).bind fun bt365 => (if (l1.length : Int) > 300 then (some true) else (terrierlaw01_OctetsStops.l0 k l0 l1 (l1.length : Int) 0 bt365.1 bt365.2.1 bt365.2.2))
theorem terrierlaw01_OctetsStops.mono_l : ∀ k, (∀ y0 y1 y2 y3 y4 y5 y6, LeO (terrierlaw01_OctetsStops.l0 k y0 y1 y2 y3 y4 y5 y6) (terrierlaw01_OctetsStops.l0 (k + 1) y0 y1 y2 y3 y4 y5 y6)) ∧ (∀ y0 y1 y2 y3 y4 y5 y6 y7 y8 y9 y10 y11, LeO (terrierlaw01_OctetsStops.j1 k y0 y1 y2 y3 y4 y5 y6 y7 y8 y9 y10 y11) (terrierlaw01_OctetsStops.j1 (k + 1) y0 y1 y2 y3 y4 y5 y6 y7 y8 y9 y10 y11))
  | 0 => ⟨fun _ _ _ _ _ _ _ r h => by simp [terrierlaw01_OctetsStops.l0] at h, fun _ _ _ _ _ _ _ _ _ _ _ _ r h => by simp [terrierlaw01_OctetsStops.j1] at h⟩
  | k + 1 => by
    obtain ⟨ih0, ih1⟩ := terrierlaw01_OctetsStops.mono_l k
    refine ⟨?_, ?_⟩
    · intro y0 y1 y2 y3 y4 y5 y6
      unfold terrierlaw01_OctetsStops.l0
      repeat' first
      | (with_reducible exact ih0 _ _ _ _ _ _ _)
      | (with_reducible exact ih1 _ _ _ _ _ _ _ _ _ _ _ _)
      | (with_reducible exact octets_Reader_Flag.mono _ _ _ _)
      | (with_reducible exact octets_Reader_Num.mono _ _ _ _ _)
      | (with_reducible exact octets_Reader_Text.mono _ _ _ _ _)
      | (with_reducible exact LeO.refl _)
      | (with_reducible exact LeO.none _)
      | (with_reducible refine LeO.ite ?_ ?_)
      | (with_reducible refine LeO.bind ?_ (fun _ => ?_))
      | exact ih0 _ _ _ _ _ _ _
      | exact ih1 _ _ _ _ _ _ _ _ _ _ _ _
      | exact octets_Reader_Flag.mono _ _ _ _
      | exact octets_Reader_Num.mono _ _ _ _ _
      | exact octets_Reader_Text.mono _ _ _ _ _
      | exact LeO.none _
      | refine LeO.ite ?_ ?_
      | refine LeO.bind ?_ (fun _ => ?_)
    · intro y0 y1 y2 y3 y4 y5 y6 y7 y8 y9 y10 y11
      unfold terrierlaw01_OctetsStops.j1
      repeat' first
      | (with_reducible exact ih0 _ _ _ _ _ _ _)
      | (with_reducible exact ih1 _ _ _ _ _ _ _ _ _ _ _ _)
      | (with_reducible exact octets_Reader_Flag.mono _ _ _ _)
      | (with_reducible exact octets_Reader_Num.mono _ _ _ _ _)
      | (with_reducible exact octets_Reader_Text.mono _ _ _ _ _)
      | (with_reducible exact LeO.refl _)
      | (with_reducible exact LeO.none _)
      | (with_reducible refine LeO.ite ?_ ?_)
      | (with_reducible refine LeO.bind ?_ (fun _ => ?_))
      | exact ih0 _ _ _ _ _ _ _
      | exact ih1 _ _ _ _ _ _ _ _ _ _ _ _
      | exact octets_Reader_Flag.mono _ _ _ _
      | exact octets_Reader_Num.mono _ _ _ _ _
      | exact octets_Reader_Text.mono _ _ _ _ _
      | exact LeO.none _
      | refine LeO.ite ?_ ?_
      | refine LeO.bind ?_ (fun _ => ?_)
theorem terrierlaw01_OctetsStops.mono : ∀ a0 a1 k, LeO (terrierlaw01_OctetsStops.f k a0 a1) (terrierlaw01_OctetsStops.f (k + 1) a0 a1) := by
  intro a0 a1 k
  obtain ⟨ih0, ih1⟩ := terrierlaw01_OctetsStops.mono_l k
  unfold terrierlaw01_OctetsStops.f
  repeat' first
      | (with_reducible exact ih0 _ _ _ _ _ _ _)
      | (with_reducible exact ih1 _ _ _ _ _ _ _ _ _ _ _ _)
      | (with_reducible exact octets_Reader_Flag.mono _ _ _ _)
      | (with_reducible exact octets_Reader_Num.mono _ _ _ _ _)
      | (with_reducible exact octets_Reader_Text.mono _ _ _ _ _)
      | (with_reducible exact LeO.refl _)
      | (with_reducible exact LeO.none _)
      | (with_reducible refine LeO.ite ?_ ?_)
      | (with_reducible refine LeO.bind ?_ (fun _ => ?_))
      | exact ih0 _ _ _ _ _ _ _
      | exact ih1 _ _ _ _ _ _ _ _ _ _ _ _
      | exact octets_Reader_Flag.mono _ _ _ _
      | exact octets_Reader_Num.mono _ _ _ _ _
      | exact octets_Reader_Text.mono _ _ _ _ _
      | exact LeO.none _
      | refine LeO.ite ?_ ?_
      | refine LeO.bind ?_ (fun _ => ?_)
set_option maxHeartbeats 8000000 in
set_option maxRecDepth 100000 in
theorem terrierlaw01_OctetsStops.calls0 (k : Nat) (A0 : Option Addr) (c0 : Nat) (l0 : List Int) (A1 : Option Addr) (c1 : Nat) (l1 : List (S42)) (r : Bool) (w : World) (hr0 : Kd.C (Kd.int .u8) w A0 l0.length l0) (hc0 : l0.length ≤ c0) (hr1 : Kd.C k42 w A1 l1.length l1) (hc1 : l1.length ≤ c1) (h : terrierlaw01_OctetsStops.f k l0 l1 = some r) :
    Calls Try.prog 10 #[.slice A0 l0.length c0, .slice A1 l1.length c1] w fun e w' => ∃ wN_ : World, Below w.heap.size w wN_ ∧ e = .returned (.bool r) ∧ Below wN_.heap.size wN_ w' := by
  have hu42 := Try.underlying42
  have HR0 := Aside0.mk hr0
  have HC0 := Aside0.mk hc0
  clear hr0 hc0
  have HR1 := Aside0.mk hr1
  have HC1 := Aside0.mk hc1
  clear hr1 hc1
  have HB := Aside0.mk (Below.refl w.heap.size w)
  have H : ((octets_NewReader.f l0).bind fun bt365 => (if (l1.length : Int) > 300 then (some true) else (terrierlaw01_OctetsStops.l0 k l0 l1 (l1.length : Int) 0 bt365.1 bt365.2.1 bt365.2.2))) = some r := h
  clear h
  replace H := Option.bind_eq_some_iff.mp H
  obtain ⟨⟨t365, t366, t367⟩, A30, H⟩ := H
  replace H : (if (l1.length : Int) > 300 then (some true) else (terrierlaw01_OctetsStops.l0 k l0 l1 (l1.length : Int) 0 t365 t366 t367)) = some r := H
  have A3 := Aside0.mk A30
  clear A30
  by_cases c4 : (l1.length : Int) > 300
  · rw [if_pos c4] at H
    have c4b0 : decide (300 < (l1.length : Int)) = true := decide_eq_true c4
    have c4b1 : decide (300 < l1.length) = true := decide_eq_true (by omega)
    clear c4
    obtain rfl := Option.some.inj H
    go_enter Try.func10, Try.ntmps10
    go_wp2_with (first | ((with_reducible refine gate_callee (f := 26) rfl ?_); refine goesL_ (some 14) rfl rfl Try.func26 (by kernel_rfl) rfl #[.slice A0 l0.length c0] rfl (by (try simp only [List.map_toArray, List.map_cons, List.map_nil]); first | done | rfl | (simp only [List.length_drop, List.length_take]; rfl)) ?_; (with_reducible refine (octets_NewReader.calls _ _ l0 t365 t366 t367 w _ ?side1 ?side2 ?side3 A3.out).mono ?_); (case side1 => repeat (first | (with_reducible first | exact HB.out | apply below_alloc | apply pw_below_drewN | apply below_drew1) | exact HB.out | exact Below.refl _ _)); (case side2 => repeat (first | exact HR0.out | exact HR0.out | (with_reducible refine Kd.C_alloc ?_ _) | (with_reducible refine Kd.C_drewN ?_ _) | (with_reducible refine Kd.C_drew ?_))); (case side3 => exact HC0.out); obtain ⟨wX, rfl⟩ : ∃ y_ : World, y_ = w := ⟨_, rfl⟩; rintro e w5 ⟨w, g368, rfl, hb1, hi, hb⟩; refine ⟨_, rfl, ?_⟩; have HWP := Aside0.mk (below_step (by repeat (first | (with_reducible first | exact HB.out | apply below_alloc | apply pw_below_drewN | apply below_drew1) | exact HB.out | exact Below.refl _ _)) hb1); (first | (have HWQ := Aside0.mk (below_step HWN.out HWP.out)) | (have HWQ := HWP)); (try clear HWN); have HWN := HWQ; clear HWQ; have n0_ := Aside0.mk (Kd.C_below HR0.out HWP.out); have n1_ := Aside0.mk (Kd.C_below HR1.out HWP.out); have n2_ := Aside0.mk (hb); have n3_ := Aside0.mk (hi); clear HR0; clear HR1; clear HB; have HR0 := n0_; have HR1 := n1_; have HB := n2_; have HI368 := n3_; clear n0_ n1_ n2_ n3_; (try clear hb); (try clear hb2); (try clear hk); (try clear hi)))
    go_ret
    (first | refine ⟨w, HWN.out, ?_⟩ | refine ⟨w, Below.refl _ _, ?_⟩)
    exact ⟨by first | rfl | (simp [errW_none, errW_some] <;> rfl) | (simp [*, errW_none, errW_some] <;> rfl), by repeat (first | (with_reducible first | exact HB.out | apply below_alloc | apply pw_below_drewN | apply below_drew1 | refine below_set ?_ (IsS53.ge HI368.out)) | exact HB.out | exact Below.refl _ _)⟩
  · rw [if_neg c4] at H
    have c4b0 : decide (300 < (l1.length : Int)) = false := decide_eq_false c4
    have c4b1 : decide (300 < l1.length) = false := decide_eq_false (by omega)
    clear c4
    have H' := Aside0.mk H
    clear H
    go_enter Try.func10, Try.ntmps10
    go_wp2_with (first | ((with_reducible refine gate_callee (f := 26) rfl ?_); refine goesL_ (some 14) rfl rfl Try.func26 (by kernel_rfl) rfl #[.slice A0 l0.length c0] rfl (by (try simp only [List.map_toArray, List.map_cons, List.map_nil]); first | done | rfl | (simp only [List.length_drop, List.length_take]; rfl)) ?_; (with_reducible refine (octets_NewReader.calls _ _ l0 t365 t366 t367 w _ ?side1 ?side2 ?side3 A3.out).mono ?_); (case side1 => repeat (first | (with_reducible first | exact HB.out | apply below_alloc | apply pw_below_drewN | apply below_drew1) | exact HB.out | exact Below.refl _ _)); (case side2 => repeat (first | exact HR0.out | exact HR0.out | (with_reducible refine Kd.C_alloc ?_ _) | (with_reducible refine Kd.C_drewN ?_ _) | (with_reducible refine Kd.C_drew ?_))); (case side3 => exact HC0.out); obtain ⟨wX, rfl⟩ : ∃ y_ : World, y_ = w := ⟨_, rfl⟩; rintro e w6 ⟨w, g368, rfl, hb1, hi, hb⟩; refine ⟨_, rfl, ?_⟩; have HWP := Aside0.mk (below_step (by repeat (first | (with_reducible first | exact HB.out | apply below_alloc | apply pw_below_drewN | apply below_drew1) | exact HB.out | exact Below.refl _ _)) hb1); (first | (have HWQ := Aside0.mk (below_step HWN.out HWP.out)) | (have HWQ := HWP)); (try clear HWN); have HWN := HWQ; clear HWQ; have n0_ := Aside0.mk (Kd.C_below HR0.out HWP.out); have n1_ := Aside0.mk (Kd.C_below HR1.out HWP.out); have n2_ := Aside0.mk (hb); have n3_ := Aside0.mk (hi); clear HR0; clear HR1; clear HB; have HR0 := n0_; have HR1 := n1_; have HB := n2_; have HI368 := n3_; clear n0_ n1_ n2_ n3_; (try clear hb); (try clear hb2); (try clear hk); (try clear hi)))
    go_loopg [26] k (fun kq v26 w' => ∃ (x26_1 : Int) (x369001_1 : Int) (x369002_1 : Int), v26 = .int .i64 x26_1 ∧ Aside0 (terrierlaw01_OctetsStops.l0 kq l0 l1 (l1.length : Int) x26_1 t365 x369001_1 x369002_1 = some r) ∧ Aside0 (kq ≤ k) ∧ Aside0 (IsS53 w w' g368 t365 x369001_1 x369002_1) ∧ Aside0 (Below w.heap.size w w'))
    case atStart => exact ⟨(0), (t366), (t367), (by first | rfl | (simp; done) | (simp [*]; done)), H', ⟨Nat.le_refl _⟩, ⟨by repeat (first | (with_reducible first | exact HI368.out | apply IsS53.alloc | apply IsS53.drewN | apply IsS53.drew | apply IsS53.set_1 | apply IsS53.set_2) | exact HI368.out)⟩, ⟨by repeat (first | (with_reducible first | exact HB.out | apply below_alloc | apply pw_below_drewN | apply below_drew1 | refine below_set ?_ (IsS53.ge HI368.out)) | exact HB.out | exact Below.refl _ _)⟩⟩
    case round =>
      clear H'
      try clear c1
      try clear c2
      try clear p2
      try clear c4
      try clear c4b0
      try clear c4b1
      obtain ⟨x26_1, x369001_1, x369002_1, rfl, HA, HK1, HI368, HB⟩ := hrel
      cases gk with
      | zero => exact absurd HA.out (by simp [terrierlaw01_OctetsStops.l0])
      | succ k1 =>
        have H := HA.out
        clear HA
        simp only [terrierlaw01_OctetsStops.l0] at H
        by_cases c7 : x26_1 < (l1.length : Int)
        · rw [if_pos c7] at H
          have c7b0 : decide (x26_1 < (l1.length : Int)) = true := decide_eq_true c7
          clear c7
          by_cases c8 : 0 ≤ x26_1
          · rw [if_pos c8] at H
            have c8b0 : decide (0 ≤ x26_1) = true := decide_eq_true c8
            clear c8
            by_cases c9 : x26_1 < (l1.length : Int)
            · rw [if_pos c9] at H
              have c9b0 : decide (x26_1 < (l1.length : Int)) = true := decide_eq_true c9
              clear c9
              replace H := Option.bind_eq_some_iff.mp H
              obtain ⟨⟨t381, t382, t383⟩, A100, H⟩ := H
              replace H : ((octets_Reader_At.f t365 t382 t383).bind fun bt384 => (if ((rd_T42 l1 x26_1).f0) = 0 then ((octets_Reader_Num.f k1 t365 bt384.2.1 bt384.2.2 ((rd_T42 l1 x26_1).f1)).bind fun bt387 => (terrierlaw01_OctetsStops.j1 k1 l0 t381 bt384.1 bt387.1 0 false l1 (l1.length : Int) x26_1 t365 bt387.2.1 bt387.2.2)) else (if ((rd_T42 l1 x26_1).f0) = 1 then ((octets_Reader_Bytes.f t365 bt384.2.1 bt384.2.2 ((rd_T42 l1 x26_1).f1)).bind fun bt390 => (terrierlaw01_OctetsStops.j1 k1 l0 t381 bt384.1 0 (bt390.1.length : Int) false l1 (l1.length : Int) x26_1 t365 bt390.2.1 bt390.2.2)) else (if ((rd_T42 l1 x26_1).f0) = 2 then ((octets_Reader_Text.f k1 t365 bt384.2.1 bt384.2.2 ((rd_T42 l1 x26_1).f1)).bind fun bt395 => (terrierlaw01_OctetsStops.j1 k1 l0 t381 bt384.1 0 (bt395.1.length : Int) false l1 (l1.length : Int) x26_1 t365 bt395.2.1 bt395.2.2)) else ((octets_Reader_Flag.f k1 t365 bt384.2.1 bt384.2.2).bind fun bt400 => (terrierlaw01_OctetsStops.j1 k1 l0 t381 bt384.1 0 0 bt400.1 l1 (l1.length : Int) x26_1 t365 bt400.2.1 bt400.2.2)))))) = some r := H
              have A10 := Aside0.mk A100
              clear A100
              replace H := Option.bind_eq_some_iff.mp H
              obtain ⟨⟨t384, t385, t386⟩, A110, H⟩ := H
              replace H : (if ((rd_T42 l1 x26_1).f0) = 0 then ((octets_Reader_Num.f k1 t365 t385 t386 ((rd_T42 l1 x26_1).f1)).bind fun bt387 => (terrierlaw01_OctetsStops.j1 k1 l0 t381 t384 bt387.1 0 false l1 (l1.length : Int) x26_1 t365 bt387.2.1 bt387.2.2)) else (if ((rd_T42 l1 x26_1).f0) = 1 then ((octets_Reader_Bytes.f t365 t385 t386 ((rd_T42 l1 x26_1).f1)).bind fun bt390 => (terrierlaw01_OctetsStops.j1 k1 l0 t381 t384 0 (bt390.1.length : Int) false l1 (l1.length : Int) x26_1 t365 bt390.2.1 bt390.2.2)) else (if ((rd_T42 l1 x26_1).f0) = 2 then ((octets_Reader_Text.f k1 t365 t385 t386 ((rd_T42 l1 x26_1).f1)).bind fun bt395 => (terrierlaw01_OctetsStops.j1 k1 l0 t381 t384 0 (bt395.1.length : Int) false l1 (l1.length : Int) x26_1 t365 bt395.2.1 bt395.2.2)) else ((octets_Reader_Flag.f k1 t365 t385 t386).bind fun bt400 => (terrierlaw01_OctetsStops.j1 k1 l0 t381 t384 0 0 bt400.1 l1 (l1.length : Int) x26_1 t365 bt400.2.1 bt400.2.2))))) = some r := H
              have A11 := Aside0.mk A110
              clear A110
              have HC12 := Aside0.mk H
              clear H
              have p379 : 0 ≤ (x26_1 : Int) := of_decide_eq_true (by first | (with_reducible assumption) | assumption)
              have q379 : x26_1 < (l1.length : Int) := of_decide_eq_true (by first | (with_reducible assumption) | assumption)
              obtain ⟨ad379, e379, hx379_0, hx379_1⟩ := at_T42 HR1.out x26_1 p379 q379
              cases e379
              replace hx379_0 := (HB.out.cell (World.block_lt_of_cell? w _ hx379_0)).trans hx379_0
              replace hx379_1 := (HB.out.cell (World.block_lt_of_cell? w _ hx379_1)).trans hx379_1
              replace p379 := eq_true p379
              replace q379 := eq_true q379
              go_upto_block 2 with (first | ((with_reducible refine gate_dst (N := 7) rfl ?_); (try (refine gate_guard (by rfl) ?_; dsimp only)); refine box_event ?hg (N := 7) ?hd (cs := #[.int .i64 0, .int .i64 0]) (t := 42) ?hr ?_; (case hd => rfl); (case hg => rfl); (case hr => first | (go_simp; done) | (go_simp; rfl)); intro gb380 hg w13 hbox hb; have n0_ := Aside0.mk (IsS53.below (by repeat (first | (with_reducible first | exact HI368.out | apply IsS53.alloc | apply IsS53.drewN | apply IsS53.drew | apply IsS53.set_1 | apply IsS53.set_2) | exact HI368.out)) hb); have n1_ := Aside0.mk (below_step (by repeat (first | (with_reducible first | exact HB.out | apply below_alloc | apply pw_below_drewN | apply below_drew1 | refine below_set ?_ (IsS53.ge HI368.out)) | exact HB.out | exact Below.refl _ _)) hb); have n2_ := Aside0.mk (hbox); have n3_ := Aside0.mk ((by rw [hg]; exact (below_size (by repeat (first | (with_reducible first | exact HB.out | apply below_alloc | apply pw_below_drewN | apply below_drew1 | refine below_set ?_ (IsS53.ge HI368.out)) | exact HB.out | exact Below.refl _ _))) : w.heap.size ≤ gb380)); have n4_ := Aside0.mk ((by rw [hg]; exact (below_size (by repeat (first | (with_reducible first | exact HB.out | apply below_alloc | apply pw_below_drewN | apply below_drew1 | refine below_set ?_ (IsS53.ge HI368.out)) | exact HB.out | exact Below.refl _ _))) : w.heap.size ≤ gb380)); have n5_ := Aside0.mk ((by rw [hg]; exact Nat.ne_of_lt (IsS53.lt (show IsS53 w _ g368 t365 x369001_1 x369002_1 from by repeat (first | (with_reducible first | exact HI368.out | apply IsS53.alloc | apply IsS53.drewN | apply IsS53.drew | apply IsS53.set_1 | apply IsS53.set_2) | exact HI368.out))) : g368 ≠ gb380)); have n6_ := Aside0.mk ((by rw [hg]; exact Nat.ne_of_gt (IsS53.lt (show IsS53 w _ g368 t365 x369001_1 x369002_1 from by repeat (first | (with_reducible first | exact HI368.out | apply IsS53.alloc | apply IsS53.drewN | apply IsS53.drew | apply IsS53.set_1 | apply IsS53.set_2) | exact HI368.out))) : gb380 ≠ g368)); clear HI368; clear HB; have HI368 := n0_; have HB := n1_; have BK380 := n2_; have GW380 := n3_; have GE380 := n4_; have NB368_380 := n5_; have NB380_368 := n6_; clear n0_ n1_ n2_ n3_ n4_ n5_ n6_; clear hb hbox hg; have hnb14 := NB380_368.out; have hnc14 := NB368_380.out; have hcz15_0 : w13.cell? ⟨gb380, 0, none⟩ = some (.int .i64 0) := (blk_cell BK380.out 0).trans rfl; have hcz15_1 : w13.cell? ⟨gb380, 1, none⟩ = some (.int .i64 0) := (blk_cell BK380.out 1).trans rfl; have hfz15_0 := blk_frozen BK380.out 0; have hfz15_1 := blk_frozen BK380.out 1) | ((with_reducible refine gate_callee (f := 27) rfl ?_); refine goesL_ (some 31) rfl rfl Try.func27 (by kernel_rfl) rfl #[.pointer (some ⟨g368, 0, none⟩)] rfl (by (try simp only [List.map_toArray, List.map_cons, List.map_nil]); first | done | rfl | (simp only [List.length_drop, List.length_take]; rfl)) ?_; (with_reducible refine (octets_Reader_End.calls g368 t365 x369001_1 x369002_1 t381 t382 t383 w _ ?side1 ?side2 A10.out).mono ?_); (case side1 => repeat (first | (with_reducible first | exact HI368.out | apply IsS53.alloc | apply IsS53.drewN | apply IsS53.drew | apply IsS53.set_1 | apply IsS53.set_2 | refine IsS53.far ?_ NB368_380.out _) | exact HI368.out)); (case side2 => repeat (first | (with_reducible first | exact HB.out | apply below_alloc | apply pw_below_drewN | apply below_drew1 | refine below_set ?_ (IsS53.ge HI368.out) | refine below_set ?_ GE380.out) | exact HB.out | exact Below.refl _ _)); rintro e w16 ⟨rfl, hi, hb, hk⟩; refine ⟨_, rfl, ?_⟩; have n0_ := Aside0.mk (KeepBut.blk hk (g' := gb380) (o := .cells #[.int .i64 ((rd_T42 l1 x26_1).f0), .int .i64 ((rd_T42 l1 x26_1).f1)] 42 (0, 0)) (by (with_reducible repeat (first | refine blk_drewN ?_ _ | refine blk_drew ?_ | refine blk_alloc ?_ _)); refine blk_put (cs := #[.int .i64 ((rd_T42 l1 x26_1).f0), .int .i64 0]) ?_ 1 _ rfl; (with_reducible repeat (first | refine blk_drewN ?_ _ | refine blk_drew ?_ | refine blk_alloc ?_ _)); refine blk_put (cs := #[.int .i64 0, .int .i64 0]) ?_ 0 _ rfl; (with_reducible repeat (first | refine blk_drewN ?_ _ | refine blk_drew ?_ | refine blk_alloc ?_ _)); exact BK380.out) NB380_368.out (by simp)); have n1_ := Aside0.mk (hb); have n2_ := Aside0.mk (hi); clear BK380; clear HB; clear HI368; have BK380 := n0_; have HB := n1_; have HI368 := n2_; clear n0_ n1_ n2_; (try clear hb); (try clear hb2); (try clear hk); (try clear hi)) | ((with_reducible refine gate_callee (f := 28) rfl ?_); refine goesL_ (some 33) rfl rfl Try.func28 (by kernel_rfl) rfl #[.pointer (some ⟨g368, 0, none⟩)] rfl (by (try simp only [List.map_toArray, List.map_cons, List.map_nil]); first | done | rfl | (simp only [List.length_drop, List.length_take]; rfl)) ?_; (with_reducible refine (octets_Reader_At.calls g368 t365 t382 t383 t384 t385 t386 w _ ?side1 ?side2 A11.out).mono ?_); (case side1 => repeat (first | (with_reducible first | exact HI368.out | apply IsS53.alloc | apply IsS53.drewN | apply IsS53.drew | apply IsS53.set_1 | apply IsS53.set_2 | refine IsS53.far ?_ NB368_380.out _) | exact HI368.out)); (case side2 => repeat (first | (with_reducible first | exact HB.out | apply below_alloc | apply pw_below_drewN | apply below_drew1 | refine below_set ?_ (IsS53.ge HI368.out) | refine below_set ?_ GE380.out) | exact HB.out | exact Below.refl _ _)); rintro e w17 ⟨rfl, hi, hb, hk⟩; refine ⟨_, rfl, ?_⟩; have n0_ := Aside0.mk (KeepBut.blk hk (g' := gb380) (o := .cells #[.int .i64 ((rd_T42 l1 x26_1).f0), .int .i64 ((rd_T42 l1 x26_1).f1)] 42 (0, 0)) (by (with_reducible repeat (first | refine blk_drewN ?_ _ | refine blk_drew ?_ | refine blk_alloc ?_ _)); exact BK380.out) NB380_368.out (by simp)); have n1_ := Aside0.mk (hb); have n2_ := Aside0.mk (hi); clear BK380; clear HB; clear HI368; have BK380 := n0_; have HB := n1_; have HI368 := n2_; clear n0_ n1_ n2_; (try clear hb); (try clear hb2); (try clear hk); (try clear hi); have hcz18_0 : w17.cell? ⟨gb380, 0, none⟩ = some (.int .i64 ((rd_T42 l1 x26_1).f0)) := (blk_cell BK380.out 0).trans rfl; have hcz18_1 : w17.cell? ⟨gb380, 1, none⟩ = some (.int .i64 ((rd_T42 l1 x26_1).f1)) := (blk_cell BK380.out 1).trans rfl; have hfz18_0 := blk_frozen BK380.out 0; have hfz18_1 := blk_frozen BK380.out 1))
              (try simp only [Act.put, List.setIfInBounds_toArray, List.set_cons_zero, List.set_cons_succ])
              go_cut [10, 11, 12] (fun v10 v11 v12 wc => ∃ (kq : Nat) (x10_11 : Int) (x11_11 : Int) (x12_11 : Bool) (x369001_11 : Int) (x369002_11 : Int), v10 = .int .u64 x10_11 ∧ v11 = .int .i64 x11_11 ∧ v12 = .bool x12_11 ∧ Aside0 (terrierlaw01_OctetsStops.j1 kq l0 t381 t384 x10_11 x11_11 x12_11 l1 (l1.length : Int) x26_1 t365 x369001_11 x369002_11 = some r) ∧ Aside0 (kq ≤ k1) ∧ Aside0 (wc.heap[gb380]? = some (.cells #[.int .i64 ((rd_T42 l1 x26_1).f0), .int .i64 ((rd_T42 l1 x26_1).f1)] 42 (0, 0))) ∧ Aside0 (IsS53 w wc g368 t365 x369001_11 x369002_11) ∧ Aside0 (Below w.heap.size w wc))
              case first =>
                have H := HC12.out
                clear HC12
                by_cases c19 : ((rd_T42 l1 x26_1).f0) = 0
                · rw [if_pos c19] at H
                  have c19b0 : (((rd_T42 l1 x26_1).f0) == 0) = true := beq_iff_eq.mpr c19
                  have c19b1 : (((rd_T42 l1 x26_1).f0) != 0) = false := bne_eq_false_iff_eq.mpr c19
                  clear c19
                  (first | rw [c19b0] | (simp only [i64_w, i32_w]; rw [c19b0]) | skip)
                  replace H := Option.bind_eq_some_iff.mp H
                  obtain ⟨⟨t387, t388, t389⟩, A200, H⟩ := H
                  replace H : (terrierlaw01_OctetsStops.j1 k1 l0 t381 t384 t387 0 false l1 (l1.length : Int) x26_1 t365 t388 t389) = some r := H
                  have A20 := Aside0.mk A200
                  clear A200
                  have H' := Aside0.mk H
                  clear H
                  have hnb21 := NB380_368.out
                  have hnc21 := NB368_380.out
                  have hcz22_0 : w17.cell? ⟨gb380, 0, none⟩ = some (.int .i64 ((rd_T42 l1 x26_1).f0)) := (blk_cell BK380.out 0).trans rfl
                  have hcz22_1 : w17.cell? ⟨gb380, 1, none⟩ = some (.int .i64 ((rd_T42 l1 x26_1).f1)) := (blk_cell BK380.out 1).trans rfl
                  have hfz22_0 := blk_frozen BK380.out 0
                  have hfz22_1 := blk_frozen BK380.out 1
                  go_wp2_with (first | ((with_reducible refine gate_callee (f := 29) rfl ?_); refine goesL_ (some 43) rfl rfl Try.func29 (by kernel_rfl) rfl #[.pointer (some ⟨g368, 0, none⟩), .int .i64 ((rd_T42 l1 x26_1).f1)] rfl (by (try simp only [List.map_toArray, List.map_cons, List.map_nil]); first | done | rfl | (simp only [List.length_drop, List.length_take]; rfl)) ?_; (with_reducible refine (octets_Reader_Num.calls k1 g368 t365 t385 t386 ((rd_T42 l1 x26_1).f1) t387 t388 t389 w _ ?side1 ?side2 A20.out).mono ?_); (case side1 => repeat (first | (with_reducible first | exact HI368.out | apply IsS53.alloc | apply IsS53.drewN | apply IsS53.drew | apply IsS53.set_1 | apply IsS53.set_2 | refine IsS53.far ?_ NB368_380.out _) | exact HI368.out)); (case side2 => repeat (first | (with_reducible first | exact HB.out | apply below_alloc | apply pw_below_drewN | apply below_drew1 | refine below_set ?_ (IsS53.ge HI368.out) | refine below_set ?_ GE380.out) | exact HB.out | exact Below.refl _ _)); rintro e w23 ⟨rfl, hi, hb, hk⟩; refine ⟨_, rfl, ?_⟩; have n0_ := Aside0.mk (KeepBut.blk hk (g' := gb380) (o := .cells #[.int .i64 ((rd_T42 l1 x26_1).f0), .int .i64 ((rd_T42 l1 x26_1).f1)] 42 (0, 0)) (by (with_reducible repeat (first | refine blk_drewN ?_ _ | refine blk_drew ?_ | refine blk_alloc ?_ _)); exact BK380.out) NB380_368.out (by simp)); have n1_ := Aside0.mk (hb); have n2_ := Aside0.mk (hi); clear BK380; clear HB; clear HI368; have BK380 := n0_; have HB := n1_; have HI368 := n2_; clear n0_ n1_ n2_; (try clear hb); (try clear hb2); (try clear hk); (try clear hi)))
                  go_meet
                  case rel => exact ⟨_, (t387), (0), (false), (t388), (t389), (by first | rfl | (simp; done) | (simp [*]; done)), (by first | rfl | (simp; done) | (simp [*]; done)), (by first | rfl | (simp; done) | (simp [*]; done)), H', ⟨by have := HK1.out; first | omega | exact Nat.le_refl _⟩, ⟨by (with_reducible repeat (first | refine blk_drewN ?_ _ | refine blk_drew ?_ | refine blk_alloc ?_ _)); exact BK380.out⟩, ⟨by repeat (first | (with_reducible first | exact HI368.out | apply IsS53.alloc | apply IsS53.drewN | apply IsS53.drew | apply IsS53.set_1 | apply IsS53.set_2 | refine IsS53.far ?_ NB368_380.out _) | exact HI368.out)⟩, ⟨by repeat (first | (with_reducible first | exact HB.out | apply below_alloc | apply pw_below_drewN | apply below_drew1 | refine below_set ?_ (IsS53.ge HI368.out) | refine below_set ?_ GE380.out) | exact HB.out | exact Below.refl _ _)⟩⟩
                · rw [if_neg c19] at H
                  have c19b0 : (((rd_T42 l1 x26_1).f0) == 0) = false := beq_eq_false_iff_ne.mpr c19
                  have c19b1 : (((rd_T42 l1 x26_1).f0) != 0) = true := bne_iff_ne.mpr c19
                  (first | rw [c19b0] | (simp only [i64_w, i32_w]; rw [c19b0]) | skip)
                  by_cases c24 : ((rd_T42 l1 x26_1).f0) = 1
                  · rw [if_pos c24] at H
                    have c24b0 : (((rd_T42 l1 x26_1).f0) == 1) = true := beq_iff_eq.mpr c24
                    have c24b1 : (((rd_T42 l1 x26_1).f0) != 1) = false := bne_eq_false_iff_eq.mpr c24
                    clear c24
                    replace H := Option.bind_eq_some_iff.mp H
                    obtain ⟨⟨t390, t393, t394⟩, A250, H⟩ := H
                    replace H : (terrierlaw01_OctetsStops.j1 k1 l0 t381 t384 0 (t390.length : Int) false l1 (l1.length : Int) x26_1 t365 t393 t394) = some r := H
                    have A25 := Aside0.mk A250
                    clear A250
                    have H' := Aside0.mk H
                    clear H
                    have hnb26 := NB380_368.out
                    have hnc26 := NB368_380.out
                    have hcz27_0 : w17.cell? ⟨gb380, 0, none⟩ = some (.int .i64 ((rd_T42 l1 x26_1).f0)) := (blk_cell BK380.out 0).trans rfl
                    have hcz27_1 : w17.cell? ⟨gb380, 1, none⟩ = some (.int .i64 ((rd_T42 l1 x26_1).f1)) := (blk_cell BK380.out 1).trans rfl
                    have hfz27_0 := blk_frozen BK380.out 0
                    have hfz27_1 := blk_frozen BK380.out 1
                    go_wp2_with (first | ((with_reducible refine gate_callee (f := 30) rfl ?_); refine goesL_ (some 49) rfl rfl Try.func30 (by kernel_rfl) rfl #[.pointer (some ⟨g368, 0, none⟩), .int .i64 ((rd_T42 l1 x26_1).f1)] rfl (by (try simp only [List.map_toArray, List.map_cons, List.map_nil]); first | done | rfl | (simp only [List.length_drop, List.length_take]; rfl)) ?_; (with_reducible refine (octets_Reader_Bytes.calls g368 t365 t385 t386 ((rd_T42 l1 x26_1).f1) t390 t393 t394 w _ ?side1 ?side2 A25.out).mono ?_); (case side1 => repeat (first | (with_reducible first | exact HI368.out | apply IsS53.alloc | apply IsS53.drewN | apply IsS53.drew | apply IsS53.set_1 | apply IsS53.set_2 | refine IsS53.far ?_ NB368_380.out _) | exact HI368.out)); (case side2 => repeat (first | (with_reducible first | exact HB.out | apply below_alloc | apply pw_below_drewN | apply below_drew1 | refine below_set ?_ (IsS53.ge HI368.out) | refine below_set ?_ GE380.out) | exact HB.out | exact Below.refl _ _)); rintro e w28 ⟨v391, rfl, ho0, hi, hb, hk⟩; refine ⟨_, rfl, ?_⟩; have n0_ := Aside0.mk (KeepBut.blk hk (g' := gb380) (o := .cells #[.int .i64 ((rd_T42 l1 x26_1).f0), .int .i64 ((rd_T42 l1 x26_1).f1)] 42 (0, 0)) (by (with_reducible repeat (first | refine blk_drewN ?_ _ | refine blk_drew ?_ | refine blk_alloc ?_ _)); exact BK380.out) NB380_368.out (by simp)); have n1_ := Aside0.mk (Kd.R_lower ho0 (below_size (by repeat (first | (with_reducible first | exact HB.out | apply below_alloc | apply pw_below_drewN | apply below_drew1 | refine below_set ?_ (IsS53.ge HI368.out) | refine below_set ?_ GE380.out) | exact HB.out | exact Below.refl _ _)))); have n2_ := Aside0.mk (hb); have n3_ := Aside0.mk (hi); clear BK380; clear HB; clear HI368; have BK380 := n0_; have HO392 := n1_; have HB := n2_; have HI368 := n3_; clear n0_ n1_ n2_ n3_; (try clear hb); (try clear hb2); (try clear hk); (try clear hi); (try clear ho0); obtain ⟨Ao29, co29, eo29⟩ := Kd.R_slice HO392.out; subst eo29))
                    go_meet
                    case rel => exact ⟨_, (0), ((t390.length : Int)), (false), (t393), (t394), (by first | rfl | (simp; done) | (simp [*]; done)), (by first | rfl | (simp; done) | (simp [*]; done)), (by first | rfl | (simp; done) | (simp [*]; done)), H', ⟨by have := HK1.out; first | omega | exact Nat.le_refl _⟩, ⟨by (with_reducible repeat (first | refine blk_drewN ?_ _ | refine blk_drew ?_ | refine blk_alloc ?_ _)); exact BK380.out⟩, ⟨by repeat (first | (with_reducible first | exact HI368.out | apply IsS53.alloc | apply IsS53.drewN | apply IsS53.drew | apply IsS53.set_1 | apply IsS53.set_2 | refine IsS53.far ?_ NB368_380.out _) | exact HI368.out)⟩, ⟨by repeat (first | (with_reducible first | exact HB.out | apply below_alloc | apply pw_below_drewN | apply below_drew1 | refine below_set ?_ (IsS53.ge HI368.out) | refine below_set ?_ GE380.out) | exact HB.out | exact Below.refl _ _)⟩⟩
                  · rw [if_neg c24] at H
                    have c24b0 : (((rd_T42 l1 x26_1).f0) == 1) = false := beq_eq_false_iff_ne.mpr c24
                    have c24b1 : (((rd_T42 l1 x26_1).f0) != 1) = true := bne_iff_ne.mpr c24
                    by_cases c30 : ((rd_T42 l1 x26_1).f0) = 2
                    · rw [if_pos c30] at H
                      have c30b0 : (((rd_T42 l1 x26_1).f0) == 2) = true := beq_iff_eq.mpr c30
                      have c30b1 : (((rd_T42 l1 x26_1).f0) != 2) = false := bne_eq_false_iff_eq.mpr c30
                      clear c30
                      replace H := Option.bind_eq_some_iff.mp H
                      obtain ⟨⟨t395, t398, t399⟩, A310, H⟩ := H
                      replace H : (terrierlaw01_OctetsStops.j1 k1 l0 t381 t384 0 (t395.length : Int) false l1 (l1.length : Int) x26_1 t365 t398 t399) = some r := H
                      have A31 := Aside0.mk A310
                      clear A310
                      have H' := Aside0.mk H
                      clear H
                      have hnb32 := NB380_368.out
                      have hnc32 := NB368_380.out
                      have hcz33_0 : w17.cell? ⟨gb380, 0, none⟩ = some (.int .i64 ((rd_T42 l1 x26_1).f0)) := (blk_cell BK380.out 0).trans rfl
                      have hcz33_1 : w17.cell? ⟨gb380, 1, none⟩ = some (.int .i64 ((rd_T42 l1 x26_1).f1)) := (blk_cell BK380.out 1).trans rfl
                      have hfz33_0 := blk_frozen BK380.out 0
                      have hfz33_1 := blk_frozen BK380.out 1
                      go_wp2_with (first | ((with_reducible refine gate_callee (f := 31) rfl ?_); refine goesL_ (some 56) rfl rfl Try.func31 (by kernel_rfl) rfl #[.pointer (some ⟨g368, 0, none⟩), .int .i64 ((rd_T42 l1 x26_1).f1)] rfl (by (try simp only [List.map_toArray, List.map_cons, List.map_nil]); first | done | rfl | (simp only [List.length_drop, List.length_take]; rfl)) ?_; (with_reducible refine (octets_Reader_Text.calls k1 g368 t365 t385 t386 ((rd_T42 l1 x26_1).f1) t395 t398 t399 w _ ?side1 ?side2 A31.out).mono ?_); (case side1 => repeat (first | (with_reducible first | exact HI368.out | apply IsS53.alloc | apply IsS53.drewN | apply IsS53.drew | apply IsS53.set_1 | apply IsS53.set_2 | refine IsS53.far ?_ NB368_380.out _) | exact HI368.out)); (case side2 => repeat (first | (with_reducible first | exact HB.out | apply below_alloc | apply pw_below_drewN | apply below_drew1 | refine below_set ?_ (IsS53.ge HI368.out) | refine below_set ?_ GE380.out) | exact HB.out | exact Below.refl _ _)); rintro e w34 ⟨v396, rfl, ho0, hi, hb, hk⟩; refine ⟨_, rfl, ?_⟩; have n0_ := Aside0.mk (KeepBut.blk hk (g' := gb380) (o := .cells #[.int .i64 ((rd_T42 l1 x26_1).f0), .int .i64 ((rd_T42 l1 x26_1).f1)] 42 (0, 0)) (by (with_reducible repeat (first | refine blk_drewN ?_ _ | refine blk_drew ?_ | refine blk_alloc ?_ _)); exact BK380.out) NB380_368.out (by simp)); have n1_ := Aside0.mk (Kd.R_lower ho0 (below_size (by repeat (first | (with_reducible first | exact HB.out | apply below_alloc | apply pw_below_drewN | apply below_drew1 | refine below_set ?_ (IsS53.ge HI368.out) | refine below_set ?_ GE380.out) | exact HB.out | exact Below.refl _ _)))); have n2_ := Aside0.mk (hb); have n3_ := Aside0.mk (hi); clear BK380; clear HB; clear HI368; have BK380 := n0_; have HO397 := n1_; have HB := n2_; have HI368 := n3_; clear n0_ n1_ n2_ n3_; (try clear hb); (try clear hb2); (try clear hk); (try clear hi); (try clear ho0); obtain ⟨Ao35, co35, eo35⟩ := Kd.R_slice HO397.out; subst eo35))
                      go_meet
                      case rel => exact ⟨_, (0), ((t395.length : Int)), (false), (t398), (t399), (by first | rfl | (simp; done) | (simp [*]; done)), (by first | rfl | (simp; done) | (simp [*]; done)), (by first | rfl | (simp; done) | (simp [*]; done)), H', ⟨by have := HK1.out; first | omega | exact Nat.le_refl _⟩, ⟨by (with_reducible repeat (first | refine blk_drewN ?_ _ | refine blk_drew ?_ | refine blk_alloc ?_ _)); exact BK380.out⟩, ⟨by repeat (first | (with_reducible first | exact HI368.out | apply IsS53.alloc | apply IsS53.drewN | apply IsS53.drew | apply IsS53.set_1 | apply IsS53.set_2 | refine IsS53.far ?_ NB368_380.out _) | exact HI368.out)⟩, ⟨by repeat (first | (with_reducible first | exact HB.out | apply below_alloc | apply pw_below_drewN | apply below_drew1 | refine below_set ?_ (IsS53.ge HI368.out) | refine below_set ?_ GE380.out) | exact HB.out | exact Below.refl _ _)⟩⟩
                    · rw [if_neg c30] at H
                      have c30b0 : (((rd_T42 l1 x26_1).f0) == 2) = false := beq_eq_false_iff_ne.mpr c30
                      have c30b1 : (((rd_T42 l1 x26_1).f0) != 2) = true := bne_iff_ne.mpr c30
                      replace H := Option.bind_eq_some_iff.mp H
                      obtain ⟨⟨t400, t401, t402⟩, A360, H⟩ := H
                      replace H : (terrierlaw01_OctetsStops.j1 k1 l0 t381 t384 0 0 t400 l1 (l1.length : Int) x26_1 t365 t401 t402) = some r := H
                      have A36 := Aside0.mk A360
                      clear A360
                      have H' := Aside0.mk H
                      clear H
                      go_wp2_with (first | ((with_reducible refine gate_callee (f := 32) rfl ?_); refine goesL_ (some 37) rfl rfl Try.func32 (by kernel_rfl) rfl #[.pointer (some ⟨g368, 0, none⟩)] rfl (by (try simp only [List.map_toArray, List.map_cons, List.map_nil]); first | done | rfl | (simp only [List.length_drop, List.length_take]; rfl)) ?_; (with_reducible refine (octets_Reader_Flag.calls k1 g368 t365 t385 t386 t400 t401 t402 w _ ?side1 ?side2 A36.out).mono ?_); (case side1 => repeat (first | (with_reducible first | exact HI368.out | apply IsS53.alloc | apply IsS53.drewN | apply IsS53.drew | apply IsS53.set_1 | apply IsS53.set_2 | refine IsS53.far ?_ NB368_380.out _) | exact HI368.out)); (case side2 => repeat (first | (with_reducible first | exact HB.out | apply below_alloc | apply pw_below_drewN | apply below_drew1 | refine below_set ?_ (IsS53.ge HI368.out) | refine below_set ?_ GE380.out) | exact HB.out | exact Below.refl _ _)); rintro e w37 ⟨rfl, hi, hb, hk⟩; refine ⟨_, rfl, ?_⟩; have n0_ := Aside0.mk (KeepBut.blk hk (g' := gb380) (o := .cells #[.int .i64 ((rd_T42 l1 x26_1).f0), .int .i64 ((rd_T42 l1 x26_1).f1)] 42 (0, 0)) (by (with_reducible repeat (first | refine blk_drewN ?_ _ | refine blk_drew ?_ | refine blk_alloc ?_ _)); exact BK380.out) NB380_368.out (by simp)); have n1_ := Aside0.mk (hb); have n2_ := Aside0.mk (hi); clear BK380; clear HB; clear HI368; have BK380 := n0_; have HB := n1_; have HI368 := n2_; clear n0_ n1_ n2_; (try clear hb); (try clear hb2); (try clear hk); (try clear hi)))
                      go_meet
                      case rel => exact ⟨_, (0), (0), (t400), (t401), (t402), (by first | rfl | (simp; done) | (simp [*]; done)), (by first | rfl | (simp; done) | (simp [*]; done)), (by first | rfl | (simp; done) | (simp [*]; done)), H', ⟨by have := HK1.out; first | omega | exact Nat.le_refl _⟩, ⟨by (with_reducible repeat (first | refine blk_drewN ?_ _ | refine blk_drew ?_ | refine blk_alloc ?_ _)); exact BK380.out⟩, ⟨by repeat (first | (with_reducible first | exact HI368.out | apply IsS53.alloc | apply IsS53.drewN | apply IsS53.drew | apply IsS53.set_1 | apply IsS53.set_2 | refine IsS53.far ?_ NB368_380.out _) | exact HI368.out)⟩, ⟨by repeat (first | (with_reducible first | exact HB.out | apply below_alloc | apply pw_below_drewN | apply below_drew1 | refine below_set ?_ (IsS53.ge HI368.out) | refine below_set ?_ GE380.out) | exact HB.out | exact Below.refl _ _)⟩⟩
              case rest =>
                clear HC12
                try clear c1
                try clear c2
                try clear p2
                try clear c3
                try clear p3
                try clear q3
                try clear hx3
                try clear c4
                try clear c4b0
                try clear c4b1
                try clear c7
                try clear c7b0
                try clear c8
                try clear c8b0
                try clear c9
                try clear c9b0
                try clear c10
                try clear c14
                try clear c19
                try clear c19b0
                try clear c19b1
                try clear c21
                try clear c24
                try clear c24b0
                try clear c24b1
                try clear c26
                try clear c27
                try clear c28
                try clear c29
                try clear c30
                try clear c30b0
                try clear c30b1
                try clear c31
                try clear c32
                try clear p37
                try clear q37
                try clear hx37
                try clear hcz15_0
                try clear hcz15_1
                try clear hcz18_0
                try clear hcz18_1
                try clear hcz22_0
                try clear hcz22_1
                try clear hcz27_0
                try clear hcz27_1
                try clear hcz33_0
                try clear hcz33_1
                try clear hfz15_0
                try clear hfz15_1
                try clear hfz18_0
                try clear hfz18_1
                try clear hfz22_0
                try clear hfz22_1
                try clear hfz27_0
                try clear hfz27_1
                try clear hfz33_0
                try clear hfz33_1
                try clear hx379_0
                try clear hx379_1
                try clear p2
                try clear p379
                try clear q379
                obtain ⟨kq, x10_11, x11_11, x12_11, x369001_11, x369002_11, rfl, rfl, rfl, HA, HJ11, BK380, HI368, HB⟩ := hcut
                cases kq with
                | zero => exact absurd HA.out (by simp [terrierlaw01_OctetsStops.j1])
                | succ kj11 =>
                  have H := HA.out
                  clear HA
                  simp only [terrierlaw01_OctetsStops.j1] at H
                  replace H := Option.bind_eq_some_iff.mp H
                  obtain ⟨⟨t403, t404, t405⟩, A380, H⟩ := H
                  replace H : (if t403 < t384 then (some false) else ((octets_Reader_At.f t365 t404 t405).bind fun bt406 => (if bt406.1 > (l0.length : Int) then (some false) else (if t381 = 0 then (terrierlaw01_OctetsStops.l0 kj11 l0 l1 (l1.length : Int) (wrap64 (x26_1 + 1)) t365 bt406.2.1 bt406.2.2) else (if t381 = 5 then (terrierlaw01_OctetsStops.l0 kj11 l0 l1 (l1.length : Int) (wrap64 (x26_1 + 1)) t365 bt406.2.1 bt406.2.2) else ((octets_Reader_End.f t365 bt406.2.1 bt406.2.2).bind fun bt409 => (if bt409.1 = t381 then ((octets_Reader_At.f t365 bt409.2.1 bt409.2.2).bind fun bt412 => (if bt412.1 = t384 then (if x10_11 = 0 then (if x11_11 = 0 then (if x12_11 = true then (some false) else (terrierlaw01_OctetsStops.l0 kj11 l0 l1 (l1.length : Int) (wrap64 (x26_1 + 1)) t365 bt412.2.1 bt412.2.2)) else (some false)) else (some false)) else (some false))) else (some false)))))))) = some r := H
                  have A38 := Aside0.mk A380
                  clear A380
                  by_cases c39 : t403 < t384
                  · rw [if_pos c39] at H
                    have c39b0 : decide (t403 < t384) = true := decide_eq_true c39
                    clear c39
                    obtain rfl := Option.some.inj H
                    go_wp2_with (first | ((with_reducible refine gate_callee (f := 28) rfl ?_); refine goesL_ (some 59) rfl rfl Try.func28 (by kernel_rfl) rfl #[.pointer (some ⟨g368, 0, none⟩)] rfl (by (try simp only [List.map_toArray, List.map_cons, List.map_nil]); first | done | rfl | (simp only [List.length_drop, List.length_take]; rfl)) ?_; (with_reducible refine (octets_Reader_At.calls g368 t365 x369001_11 x369002_11 t403 t404 t405 w _ ?side1 ?side2 A38.out).mono ?_); (case side1 => repeat (first | (with_reducible first | exact HI368.out | apply IsS53.alloc | apply IsS53.drewN | apply IsS53.drew | apply IsS53.set_1 | apply IsS53.set_2 | refine IsS53.far ?_ NB368_380.out _) | exact HI368.out)); (case side2 => repeat (first | (with_reducible first | exact HB.out | apply below_alloc | apply pw_below_drewN | apply below_drew1 | refine below_set ?_ (IsS53.ge HI368.out) | refine below_set ?_ GE380.out) | exact HB.out | exact Below.refl _ _)); rintro e w40 ⟨rfl, hi, hb, hk⟩; refine ⟨_, rfl, ?_⟩; have n0_ := Aside0.mk (KeepBut.blk hk (g' := gb380) (o := .cells #[.int .i64 ((rd_T42 l1 x26_1).f0), .int .i64 ((rd_T42 l1 x26_1).f1)] 42 (0, 0)) (by (with_reducible repeat (first | refine blk_drewN ?_ _ | refine blk_drew ?_ | refine blk_alloc ?_ _)); exact BK380.out) NB380_368.out (by simp)); have n1_ := Aside0.mk (hb); have n2_ := Aside0.mk (hi); clear BK380; clear HB; clear HI368; have BK380 := n0_; have HB := n1_; have HI368 := n2_; clear n0_ n1_ n2_; (try clear hb); (try clear hb2); (try clear hk); (try clear hi)))
                    go_ret
                    (first | refine ⟨w, HWN.out, ?_⟩ | refine ⟨w, Below.refl _ _, ?_⟩)
                    exact ⟨by first | rfl | (simp [errW_none, errW_some] <;> rfl) | (simp [*, errW_none, errW_some] <;> rfl), by repeat (first | (with_reducible first | exact HB.out | apply below_alloc | apply pw_below_drewN | apply below_drew1 | refine below_set ?_ (IsS53.ge HI368.out) | refine below_set ?_ GE380.out) | exact HB.out | exact Below.refl _ _)⟩
                  · rw [if_neg c39] at H
                    have c39b0 : decide (t403 < t384) = false := decide_eq_false c39
                    clear c39
                    replace H := Option.bind_eq_some_iff.mp H
                    obtain ⟨⟨t406, t407, t408⟩, A410, H⟩ := H
                    replace H : (if t406 > (l0.length : Int) then (some false) else (if t381 = 0 then (terrierlaw01_OctetsStops.l0 kj11 l0 l1 (l1.length : Int) (wrap64 (x26_1 + 1)) t365 t407 t408) else (if t381 = 5 then (terrierlaw01_OctetsStops.l0 kj11 l0 l1 (l1.length : Int) (wrap64 (x26_1 + 1)) t365 t407 t408) else ((octets_Reader_End.f t365 t407 t408).bind fun bt409 => (if bt409.1 = t381 then ((octets_Reader_At.f t365 bt409.2.1 bt409.2.2).bind fun bt412 => (if bt412.1 = t384 then (if x10_11 = 0 then (if x11_11 = 0 then (if x12_11 = true then (some false) else (terrierlaw01_OctetsStops.l0 kj11 l0 l1 (l1.length : Int) (wrap64 (x26_1 + 1)) t365 bt412.2.1 bt412.2.2)) else (some false)) else (some false)) else (some false))) else (some false)))))) = some r := H
                    have A41 := Aside0.mk A410
                    clear A410
                    by_cases c42 : t406 > (l0.length : Int)
                    · rw [if_pos c42] at H
                      have c42b0 : decide ((l0.length : Int) < t406) = true := decide_eq_true c42
                      clear c42
                      obtain rfl := Option.some.inj H
                      go_wp2_with (first | ((with_reducible refine gate_callee (f := 28) rfl ?_); refine goesL_ (some 59) rfl rfl Try.func28 (by kernel_rfl) rfl #[.pointer (some ⟨g368, 0, none⟩)] rfl (by (try simp only [List.map_toArray, List.map_cons, List.map_nil]); first | done | rfl | (simp only [List.length_drop, List.length_take]; rfl)) ?_; (with_reducible refine (octets_Reader_At.calls g368 t365 x369001_11 x369002_11 t403 t404 t405 w _ ?side1 ?side2 A38.out).mono ?_); (case side1 => repeat (first | (with_reducible first | exact HI368.out | apply IsS53.alloc | apply IsS53.drewN | apply IsS53.drew | apply IsS53.set_1 | apply IsS53.set_2 | refine IsS53.far ?_ NB368_380.out _) | exact HI368.out)); (case side2 => repeat (first | (with_reducible first | exact HB.out | apply below_alloc | apply pw_below_drewN | apply below_drew1 | refine below_set ?_ (IsS53.ge HI368.out) | refine below_set ?_ GE380.out) | exact HB.out | exact Below.refl _ _)); rintro e w43 ⟨rfl, hi, hb, hk⟩; refine ⟨_, rfl, ?_⟩; have n0_ := Aside0.mk (KeepBut.blk hk (g' := gb380) (o := .cells #[.int .i64 ((rd_T42 l1 x26_1).f0), .int .i64 ((rd_T42 l1 x26_1).f1)] 42 (0, 0)) (by (with_reducible repeat (first | refine blk_drewN ?_ _ | refine blk_drew ?_ | refine blk_alloc ?_ _)); exact BK380.out) NB380_368.out (by simp)); have n1_ := Aside0.mk (hb); have n2_ := Aside0.mk (hi); clear BK380; clear HB; clear HI368; have BK380 := n0_; have HB := n1_; have HI368 := n2_; clear n0_ n1_ n2_; (try clear hb); (try clear hb2); (try clear hk); (try clear hi)) | (go_at_call 28; (with_reducible refine (octets_Reader_At.calls g368 t365 t404 t405 t406 t407 t408 w _ ?side1 ?side2 A41.out).mono ?_); (case side1 => repeat (first | (with_reducible first | exact HI368.out | apply IsS53.alloc | apply IsS53.drewN | apply IsS53.drew | apply IsS53.set_1 | apply IsS53.set_2 | refine IsS53.far ?_ NB368_380.out _) | exact HI368.out)); (case side2 => repeat (first | (with_reducible first | exact HB.out | apply below_alloc | apply pw_below_drewN | apply below_drew1 | refine below_set ?_ (IsS53.ge HI368.out) | refine below_set ?_ GE380.out) | exact HB.out | exact Below.refl _ _)); rintro e w44 ⟨rfl, hi, hb, hk⟩; have n0_ := Aside0.mk (KeepBut.blk hk (g' := gb380) (o := .cells #[.int .i64 ((rd_T42 l1 x26_1).f0), .int .i64 ((rd_T42 l1 x26_1).f1)] 42 (0, 0)) (by (with_reducible repeat (first | refine blk_drewN ?_ _ | refine blk_drew ?_ | refine blk_alloc ?_ _)); exact BK380.out) NB380_368.out (by simp)); have n1_ := Aside0.mk (hb); have n2_ := Aside0.mk (hi); clear BK380; clear HB; clear HI368; have BK380 := n0_; have HB := n1_; have HI368 := n2_; clear n0_ n1_ n2_; (try clear hb); (try clear hb2); (try clear hk); (try clear hi)))
                      go_ret
                      (first | refine ⟨w, HWN.out, ?_⟩ | refine ⟨w, Below.refl _ _, ?_⟩)
                      exact ⟨by first | rfl | (simp [errW_none, errW_some] <;> rfl) | (simp [*, errW_none, errW_some] <;> rfl), by repeat (first | (with_reducible first | exact HB.out | apply below_alloc | apply pw_below_drewN | apply below_drew1 | refine below_set ?_ (IsS53.ge HI368.out) | refine below_set ?_ GE380.out) | exact HB.out | exact Below.refl _ _)⟩
                    · rw [if_neg c42] at H
                      have c42b0 : decide ((l0.length : Int) < t406) = false := decide_eq_false c42
                      clear c42
                      by_cases c45 : t381 = 0
                      · rw [if_pos c45] at H
                        have c45b0 : (t381 == 0) = true := beq_iff_eq.mpr c45
                        have c45b1 : (t381 != 0) = false := bne_eq_false_iff_eq.mpr c45
                        clear c45
                        have H' := Aside0.mk H
                        clear H
                        go_wp2_with (first | ((with_reducible refine gate_callee (f := 28) rfl ?_); refine goesL_ (some 59) rfl rfl Try.func28 (by kernel_rfl) rfl #[.pointer (some ⟨g368, 0, none⟩)] rfl (by (try simp only [List.map_toArray, List.map_cons, List.map_nil]); first | done | rfl | (simp only [List.length_drop, List.length_take]; rfl)) ?_; (with_reducible refine (octets_Reader_At.calls g368 t365 x369001_11 x369002_11 t403 t404 t405 w _ ?side1 ?side2 A38.out).mono ?_); (case side1 => repeat (first | (with_reducible first | exact HI368.out | apply IsS53.alloc | apply IsS53.drewN | apply IsS53.drew | apply IsS53.set_1 | apply IsS53.set_2 | refine IsS53.far ?_ NB368_380.out _) | exact HI368.out)); (case side2 => repeat (first | (with_reducible first | exact HB.out | apply below_alloc | apply pw_below_drewN | apply below_drew1 | refine below_set ?_ (IsS53.ge HI368.out) | refine below_set ?_ GE380.out) | exact HB.out | exact Below.refl _ _)); rintro e w46 ⟨rfl, hi, hb, hk⟩; refine ⟨_, rfl, ?_⟩; have n0_ := Aside0.mk (KeepBut.blk hk (g' := gb380) (o := .cells #[.int .i64 ((rd_T42 l1 x26_1).f0), .int .i64 ((rd_T42 l1 x26_1).f1)] 42 (0, 0)) (by (with_reducible repeat (first | refine blk_drewN ?_ _ | refine blk_drew ?_ | refine blk_alloc ?_ _)); exact BK380.out) NB380_368.out (by simp)); have n1_ := Aside0.mk (hb); have n2_ := Aside0.mk (hi); clear BK380; clear HB; clear HI368; have BK380 := n0_; have HB := n1_; have HI368 := n2_; clear n0_ n1_ n2_; (try clear hb); (try clear hb2); (try clear hk); (try clear hi)) | (go_at_call 28; (with_reducible refine (octets_Reader_At.calls g368 t365 t404 t405 t406 t407 t408 w _ ?side1 ?side2 A41.out).mono ?_); (case side1 => repeat (first | (with_reducible first | exact HI368.out | apply IsS53.alloc | apply IsS53.drewN | apply IsS53.drew | apply IsS53.set_1 | apply IsS53.set_2 | refine IsS53.far ?_ NB368_380.out _) | exact HI368.out)); (case side2 => repeat (first | (with_reducible first | exact HB.out | apply below_alloc | apply pw_below_drewN | apply below_drew1 | refine below_set ?_ (IsS53.ge HI368.out) | refine below_set ?_ GE380.out) | exact HB.out | exact Below.refl _ _)); rintro e w47 ⟨rfl, hi, hb, hk⟩; have n0_ := Aside0.mk (KeepBut.blk hk (g' := gb380) (o := .cells #[.int .i64 ((rd_T42 l1 x26_1).f0), .int .i64 ((rd_T42 l1 x26_1).f1)] 42 (0, 0)) (by (with_reducible repeat (first | refine blk_drewN ?_ _ | refine blk_drew ?_ | refine blk_alloc ?_ _)); exact BK380.out) NB380_368.out (by simp)); have n1_ := Aside0.mk (hb); have n2_ := Aside0.mk (hi); clear BK380; clear HB; clear HI368; have BK380 := n0_; have HB := n1_; have HI368 := n2_; clear n0_ n1_ n2_; (try clear hb); (try clear hb2); (try clear hk); (try clear hi)))
                        go_roundg kj11
                        case measure => have := HK1.out; have := HJ11.out; omega
                        case rel => exact ⟨(wrap64 (x26_1 + 1)), (t407), (t408), (by first | rfl | (simp; done) | (simp [*]; done)), H', ⟨by have := HK1.out; have := HJ11.out; omega⟩, ⟨by repeat (first | (with_reducible first | exact HI368.out | apply IsS53.alloc | apply IsS53.drewN | apply IsS53.drew | apply IsS53.set_1 | apply IsS53.set_2 | refine IsS53.far ?_ NB368_380.out _) | exact HI368.out)⟩, ⟨by repeat (first | (with_reducible first | exact HB.out | apply below_alloc | apply pw_below_drewN | apply below_drew1 | refine below_set ?_ (IsS53.ge HI368.out) | refine below_set ?_ GE380.out) | exact HB.out | exact Below.refl _ _)⟩⟩
                      · rw [if_neg c45] at H
                        have c45b0 : (t381 == 0) = false := beq_eq_false_iff_ne.mpr c45
                        have c45b1 : (t381 != 0) = true := bne_iff_ne.mpr c45
                        by_cases c48 : t381 = 5
                        · rw [if_pos c48] at H
                          have c48b0 : (t381 == 5) = true := beq_iff_eq.mpr c48
                          have c48b1 : (t381 != 5) = false := bne_eq_false_iff_eq.mpr c48
                          clear c48
                          have H' := Aside0.mk H
                          clear H
                          go_wp2_with (first | ((with_reducible refine gate_callee (f := 28) rfl ?_); refine goesL_ (some 59) rfl rfl Try.func28 (by kernel_rfl) rfl #[.pointer (some ⟨g368, 0, none⟩)] rfl (by (try simp only [List.map_toArray, List.map_cons, List.map_nil]); first | done | rfl | (simp only [List.length_drop, List.length_take]; rfl)) ?_; (with_reducible refine (octets_Reader_At.calls g368 t365 x369001_11 x369002_11 t403 t404 t405 w _ ?side1 ?side2 A38.out).mono ?_); (case side1 => repeat (first | (with_reducible first | exact HI368.out | apply IsS53.alloc | apply IsS53.drewN | apply IsS53.drew | apply IsS53.set_1 | apply IsS53.set_2 | refine IsS53.far ?_ NB368_380.out _) | exact HI368.out)); (case side2 => repeat (first | (with_reducible first | exact HB.out | apply below_alloc | apply pw_below_drewN | apply below_drew1 | refine below_set ?_ (IsS53.ge HI368.out) | refine below_set ?_ GE380.out) | exact HB.out | exact Below.refl _ _)); rintro e w49 ⟨rfl, hi, hb, hk⟩; refine ⟨_, rfl, ?_⟩; have n0_ := Aside0.mk (KeepBut.blk hk (g' := gb380) (o := .cells #[.int .i64 ((rd_T42 l1 x26_1).f0), .int .i64 ((rd_T42 l1 x26_1).f1)] 42 (0, 0)) (by (with_reducible repeat (first | refine blk_drewN ?_ _ | refine blk_drew ?_ | refine blk_alloc ?_ _)); exact BK380.out) NB380_368.out (by simp)); have n1_ := Aside0.mk (hb); have n2_ := Aside0.mk (hi); clear BK380; clear HB; clear HI368; have BK380 := n0_; have HB := n1_; have HI368 := n2_; clear n0_ n1_ n2_; (try clear hb); (try clear hb2); (try clear hk); (try clear hi)) | (go_at_call 28; (with_reducible refine (octets_Reader_At.calls g368 t365 t404 t405 t406 t407 t408 w _ ?side1 ?side2 A41.out).mono ?_); (case side1 => repeat (first | (with_reducible first | exact HI368.out | apply IsS53.alloc | apply IsS53.drewN | apply IsS53.drew | apply IsS53.set_1 | apply IsS53.set_2 | refine IsS53.far ?_ NB368_380.out _) | exact HI368.out)); (case side2 => repeat (first | (with_reducible first | exact HB.out | apply below_alloc | apply pw_below_drewN | apply below_drew1 | refine below_set ?_ (IsS53.ge HI368.out) | refine below_set ?_ GE380.out) | exact HB.out | exact Below.refl _ _)); rintro e w50 ⟨rfl, hi, hb, hk⟩; have n0_ := Aside0.mk (KeepBut.blk hk (g' := gb380) (o := .cells #[.int .i64 ((rd_T42 l1 x26_1).f0), .int .i64 ((rd_T42 l1 x26_1).f1)] 42 (0, 0)) (by (with_reducible repeat (first | refine blk_drewN ?_ _ | refine blk_drew ?_ | refine blk_alloc ?_ _)); exact BK380.out) NB380_368.out (by simp)); have n1_ := Aside0.mk (hb); have n2_ := Aside0.mk (hi); clear BK380; clear HB; clear HI368; have BK380 := n0_; have HB := n1_; have HI368 := n2_; clear n0_ n1_ n2_; (try clear hb); (try clear hb2); (try clear hk); (try clear hi)))
                          go_roundg kj11
                          case measure => have := HK1.out; have := HJ11.out; omega
                          case rel => exact ⟨(wrap64 (x26_1 + 1)), (t407), (t408), (by first | rfl | (simp; done) | (simp [*]; done)), H', ⟨by have := HK1.out; have := HJ11.out; omega⟩, ⟨by repeat (first | (with_reducible first | exact HI368.out | apply IsS53.alloc | apply IsS53.drewN | apply IsS53.drew | apply IsS53.set_1 | apply IsS53.set_2 | refine IsS53.far ?_ NB368_380.out _) | exact HI368.out)⟩, ⟨by repeat (first | (with_reducible first | exact HB.out | apply below_alloc | apply pw_below_drewN | apply below_drew1 | refine below_set ?_ (IsS53.ge HI368.out) | refine below_set ?_ GE380.out) | exact HB.out | exact Below.refl _ _)⟩⟩
                        · rw [if_neg c48] at H
                          have c48b0 : (t381 == 5) = false := beq_eq_false_iff_ne.mpr c48
                          have c48b1 : (t381 != 5) = true := bne_iff_ne.mpr c48
                          replace H := Option.bind_eq_some_iff.mp H
                          obtain ⟨⟨t409, t410, t411⟩, A510, H⟩ := H
                          replace H : (if t409 = t381 then ((octets_Reader_At.f t365 t410 t411).bind fun bt412 => (if bt412.1 = t384 then (if x10_11 = 0 then (if x11_11 = 0 then (if x12_11 = true then (some false) else (terrierlaw01_OctetsStops.l0 kj11 l0 l1 (l1.length : Int) (wrap64 (x26_1 + 1)) t365 bt412.2.1 bt412.2.2)) else (some false)) else (some false)) else (some false))) else (some false)) = some r := H
                          have A51 := Aside0.mk A510
                          clear A510
                          by_cases c52 : t409 = t381
                          · rw [if_pos c52] at H
                            have c52b0 : (t409 == t381) = true := beq_iff_eq.mpr c52
                            have c52b1 : (t409 != t381) = false := bne_eq_false_iff_eq.mpr c52
                            clear c52
                            replace H := Option.bind_eq_some_iff.mp H
                            obtain ⟨⟨t412, t413, t414⟩, A530, H⟩ := H
                            replace H : (if t412 = t384 then (if x10_11 = 0 then (if x11_11 = 0 then (if x12_11 = true then (some false) else (terrierlaw01_OctetsStops.l0 kj11 l0 l1 (l1.length : Int) (wrap64 (x26_1 + 1)) t365 t413 t414)) else (some false)) else (some false)) else (some false)) = some r := H
                            have A53 := Aside0.mk A530
                            clear A530
                            by_cases c54 : t412 = t384
                            · rw [if_pos c54] at H
                              have c54b0 : (t412 == t384) = true := beq_iff_eq.mpr c54
                              have c54b1 : (t412 != t384) = false := bne_eq_false_iff_eq.mpr c54
                              clear c54
                              by_cases c55 : x10_11 = 0
                              · rw [if_pos c55] at H
                                have c55b0 : (x10_11 == 0) = true := beq_iff_eq.mpr c55
                                have c55b1 : (x10_11 != 0) = false := bne_eq_false_iff_eq.mpr c55
                                clear c55
                                by_cases c56 : x11_11 = 0
                                · rw [if_pos c56] at H
                                  have c56b0 : (x11_11 == 0) = true := beq_iff_eq.mpr c56
                                  have c56b1 : (x11_11 != 0) = false := bne_eq_false_iff_eq.mpr c56
                                  clear c56
                                  by_cases c57 : x12_11 = true
                                  · subst c57
                                    have H1 : (some false) = some r := by rw [if_pos rfl] at H; exact H
                                    clear H
                                    have H := H1
                                    clear H1
                                    obtain rfl := Option.some.inj H
                                    go_wp2_with (first | ((with_reducible refine gate_callee (f := 28) rfl ?_); refine goesL_ (some 59) rfl rfl Try.func28 (by kernel_rfl) rfl #[.pointer (some ⟨g368, 0, none⟩)] rfl (by (try simp only [List.map_toArray, List.map_cons, List.map_nil]); first | done | rfl | (simp only [List.length_drop, List.length_take]; rfl)) ?_; (with_reducible refine (octets_Reader_At.calls g368 t365 x369001_11 x369002_11 t403 t404 t405 w _ ?side1 ?side2 A38.out).mono ?_); (case side1 => repeat (first | (with_reducible first | exact HI368.out | apply IsS53.alloc | apply IsS53.drewN | apply IsS53.drew | apply IsS53.set_1 | apply IsS53.set_2 | refine IsS53.far ?_ NB368_380.out _) | exact HI368.out)); (case side2 => repeat (first | (with_reducible first | exact HB.out | apply below_alloc | apply pw_below_drewN | apply below_drew1 | refine below_set ?_ (IsS53.ge HI368.out) | refine below_set ?_ GE380.out) | exact HB.out | exact Below.refl _ _)); rintro e w58 ⟨rfl, hi, hb, hk⟩; refine ⟨_, rfl, ?_⟩; have n0_ := Aside0.mk (KeepBut.blk hk (g' := gb380) (o := .cells #[.int .i64 ((rd_T42 l1 x26_1).f0), .int .i64 ((rd_T42 l1 x26_1).f1)] 42 (0, 0)) (by (with_reducible repeat (first | refine blk_drewN ?_ _ | refine blk_drew ?_ | refine blk_alloc ?_ _)); exact BK380.out) NB380_368.out (by simp)); have n1_ := Aside0.mk (hb); have n2_ := Aside0.mk (hi); clear BK380; clear HB; clear HI368; have BK380 := n0_; have HB := n1_; have HI368 := n2_; clear n0_ n1_ n2_; (try clear hb); (try clear hb2); (try clear hk); (try clear hi)) | (go_at_call 28; (with_reducible refine (octets_Reader_At.calls g368 t365 t404 t405 t406 t407 t408 w _ ?side1 ?side2 A41.out).mono ?_); (case side1 => repeat (first | (with_reducible first | exact HI368.out | apply IsS53.alloc | apply IsS53.drewN | apply IsS53.drew | apply IsS53.set_1 | apply IsS53.set_2 | refine IsS53.far ?_ NB368_380.out _) | exact HI368.out)); (case side2 => repeat (first | (with_reducible first | exact HB.out | apply below_alloc | apply pw_below_drewN | apply below_drew1 | refine below_set ?_ (IsS53.ge HI368.out) | refine below_set ?_ GE380.out) | exact HB.out | exact Below.refl _ _)); rintro e w59 ⟨rfl, hi, hb, hk⟩; have n0_ := Aside0.mk (KeepBut.blk hk (g' := gb380) (o := .cells #[.int .i64 ((rd_T42 l1 x26_1).f0), .int .i64 ((rd_T42 l1 x26_1).f1)] 42 (0, 0)) (by (with_reducible repeat (first | refine blk_drewN ?_ _ | refine blk_drew ?_ | refine blk_alloc ?_ _)); exact BK380.out) NB380_368.out (by simp)); have n1_ := Aside0.mk (hb); have n2_ := Aside0.mk (hi); clear BK380; clear HB; clear HI368; have BK380 := n0_; have HB := n1_; have HI368 := n2_; clear n0_ n1_ n2_; (try clear hb); (try clear hb2); (try clear hk); (try clear hi)) | (go_at_call 27; (with_reducible refine (octets_Reader_End.calls g368 t365 t407 t408 t409 t410 t411 w _ ?side1 ?side2 A51.out).mono ?_); (case side1 => repeat (first | (with_reducible first | exact HI368.out | apply IsS53.alloc | apply IsS53.drewN | apply IsS53.drew | apply IsS53.set_1 | apply IsS53.set_2 | refine IsS53.far ?_ NB368_380.out _) | exact HI368.out)); (case side2 => repeat (first | (with_reducible first | exact HB.out | apply below_alloc | apply pw_below_drewN | apply below_drew1 | refine below_set ?_ (IsS53.ge HI368.out) | refine below_set ?_ GE380.out) | exact HB.out | exact Below.refl _ _)); rintro e w60 ⟨rfl, hi, hb, hk⟩; have n0_ := Aside0.mk (KeepBut.blk hk (g' := gb380) (o := .cells #[.int .i64 ((rd_T42 l1 x26_1).f0), .int .i64 ((rd_T42 l1 x26_1).f1)] 42 (0, 0)) (by (with_reducible repeat (first | refine blk_drewN ?_ _ | refine blk_drew ?_ | refine blk_alloc ?_ _)); exact BK380.out) NB380_368.out (by simp)); have n1_ := Aside0.mk (hb); have n2_ := Aside0.mk (hi); clear BK380; clear HB; clear HI368; have BK380 := n0_; have HB := n1_; have HI368 := n2_; clear n0_ n1_ n2_; (try clear hb); (try clear hb2); (try clear hk); (try clear hi)) | (go_at_call 28; (with_reducible refine (octets_Reader_At.calls g368 t365 t410 t411 t412 t413 t414 w _ ?side1 ?side2 A53.out).mono ?_); (case side1 => repeat (first | (with_reducible first | exact HI368.out | apply IsS53.alloc | apply IsS53.drewN | apply IsS53.drew | apply IsS53.set_1 | apply IsS53.set_2 | refine IsS53.far ?_ NB368_380.out _) | exact HI368.out)); (case side2 => repeat (first | (with_reducible first | exact HB.out | apply below_alloc | apply pw_below_drewN | apply below_drew1 | refine below_set ?_ (IsS53.ge HI368.out) | refine below_set ?_ GE380.out) | exact HB.out | exact Below.refl _ _)); rintro e w61 ⟨rfl, hi, hb, hk⟩; have n0_ := Aside0.mk (KeepBut.blk hk (g' := gb380) (o := .cells #[.int .i64 ((rd_T42 l1 x26_1).f0), .int .i64 ((rd_T42 l1 x26_1).f1)] 42 (0, 0)) (by (with_reducible repeat (first | refine blk_drewN ?_ _ | refine blk_drew ?_ | refine blk_alloc ?_ _)); exact BK380.out) NB380_368.out (by simp)); have n1_ := Aside0.mk (hb); have n2_ := Aside0.mk (hi); clear BK380; clear HB; clear HI368; have BK380 := n0_; have HB := n1_; have HI368 := n2_; clear n0_ n1_ n2_; (try clear hb); (try clear hb2); (try clear hk); (try clear hi)))
                                    go_ret
                                    (first | refine ⟨w, HWN.out, ?_⟩ | refine ⟨w, Below.refl _ _, ?_⟩)
                                    exact ⟨by first | rfl | (simp [errW_none, errW_some] <;> rfl) | (simp [*, errW_none, errW_some] <;> rfl), by repeat (first | (with_reducible first | exact HB.out | apply below_alloc | apply pw_below_drewN | apply below_drew1 | refine below_set ?_ (IsS53.ge HI368.out) | refine below_set ?_ GE380.out) | exact HB.out | exact Below.refl _ _)⟩
                                  · replace c57 := Bool.eq_false_iff.mpr c57
                                    subst c57
                                    have H1 : (terrierlaw01_OctetsStops.l0 kj11 l0 l1 (l1.length : Int) (wrap64 (x26_1 + 1)) t365 t413 t414) = some r := by rw [if_neg (show ¬ (false = true) by decide)] at H; exact H
                                    clear H
                                    have H := H1
                                    clear H1
                                    have H' := Aside0.mk H
                                    clear H
                                    go_wp2_with (first | ((with_reducible refine gate_callee (f := 28) rfl ?_); refine goesL_ (some 59) rfl rfl Try.func28 (by kernel_rfl) rfl #[.pointer (some ⟨g368, 0, none⟩)] rfl (by (try simp only [List.map_toArray, List.map_cons, List.map_nil]); first | done | rfl | (simp only [List.length_drop, List.length_take]; rfl)) ?_; (with_reducible refine (octets_Reader_At.calls g368 t365 x369001_11 x369002_11 t403 t404 t405 w _ ?side1 ?side2 A38.out).mono ?_); (case side1 => repeat (first | (with_reducible first | exact HI368.out | apply IsS53.alloc | apply IsS53.drewN | apply IsS53.drew | apply IsS53.set_1 | apply IsS53.set_2 | refine IsS53.far ?_ NB368_380.out _) | exact HI368.out)); (case side2 => repeat (first | (with_reducible first | exact HB.out | apply below_alloc | apply pw_below_drewN | apply below_drew1 | refine below_set ?_ (IsS53.ge HI368.out) | refine below_set ?_ GE380.out) | exact HB.out | exact Below.refl _ _)); rintro e w62 ⟨rfl, hi, hb, hk⟩; refine ⟨_, rfl, ?_⟩; have n0_ := Aside0.mk (KeepBut.blk hk (g' := gb380) (o := .cells #[.int .i64 ((rd_T42 l1 x26_1).f0), .int .i64 ((rd_T42 l1 x26_1).f1)] 42 (0, 0)) (by (with_reducible repeat (first | refine blk_drewN ?_ _ | refine blk_drew ?_ | refine blk_alloc ?_ _)); exact BK380.out) NB380_368.out (by simp)); have n1_ := Aside0.mk (hb); have n2_ := Aside0.mk (hi); clear BK380; clear HB; clear HI368; have BK380 := n0_; have HB := n1_; have HI368 := n2_; clear n0_ n1_ n2_; (try clear hb); (try clear hb2); (try clear hk); (try clear hi)) | (go_at_call 28; (with_reducible refine (octets_Reader_At.calls g368 t365 t404 t405 t406 t407 t408 w _ ?side1 ?side2 A41.out).mono ?_); (case side1 => repeat (first | (with_reducible first | exact HI368.out | apply IsS53.alloc | apply IsS53.drewN | apply IsS53.drew | apply IsS53.set_1 | apply IsS53.set_2 | refine IsS53.far ?_ NB368_380.out _) | exact HI368.out)); (case side2 => repeat (first | (with_reducible first | exact HB.out | apply below_alloc | apply pw_below_drewN | apply below_drew1 | refine below_set ?_ (IsS53.ge HI368.out) | refine below_set ?_ GE380.out) | exact HB.out | exact Below.refl _ _)); rintro e w63 ⟨rfl, hi, hb, hk⟩; have n0_ := Aside0.mk (KeepBut.blk hk (g' := gb380) (o := .cells #[.int .i64 ((rd_T42 l1 x26_1).f0), .int .i64 ((rd_T42 l1 x26_1).f1)] 42 (0, 0)) (by (with_reducible repeat (first | refine blk_drewN ?_ _ | refine blk_drew ?_ | refine blk_alloc ?_ _)); exact BK380.out) NB380_368.out (by simp)); have n1_ := Aside0.mk (hb); have n2_ := Aside0.mk (hi); clear BK380; clear HB; clear HI368; have BK380 := n0_; have HB := n1_; have HI368 := n2_; clear n0_ n1_ n2_; (try clear hb); (try clear hb2); (try clear hk); (try clear hi)) | (go_at_call 27; (with_reducible refine (octets_Reader_End.calls g368 t365 t407 t408 t409 t410 t411 w _ ?side1 ?side2 A51.out).mono ?_); (case side1 => repeat (first | (with_reducible first | exact HI368.out | apply IsS53.alloc | apply IsS53.drewN | apply IsS53.drew | apply IsS53.set_1 | apply IsS53.set_2 | refine IsS53.far ?_ NB368_380.out _) | exact HI368.out)); (case side2 => repeat (first | (with_reducible first | exact HB.out | apply below_alloc | apply pw_below_drewN | apply below_drew1 | refine below_set ?_ (IsS53.ge HI368.out) | refine below_set ?_ GE380.out) | exact HB.out | exact Below.refl _ _)); rintro e w64 ⟨rfl, hi, hb, hk⟩; have n0_ := Aside0.mk (KeepBut.blk hk (g' := gb380) (o := .cells #[.int .i64 ((rd_T42 l1 x26_1).f0), .int .i64 ((rd_T42 l1 x26_1).f1)] 42 (0, 0)) (by (with_reducible repeat (first | refine blk_drewN ?_ _ | refine blk_drew ?_ | refine blk_alloc ?_ _)); exact BK380.out) NB380_368.out (by simp)); have n1_ := Aside0.mk (hb); have n2_ := Aside0.mk (hi); clear BK380; clear HB; clear HI368; have BK380 := n0_; have HB := n1_; have HI368 := n2_; clear n0_ n1_ n2_; (try clear hb); (try clear hb2); (try clear hk); (try clear hi)) | (go_at_call 28; (with_reducible refine (octets_Reader_At.calls g368 t365 t410 t411 t412 t413 t414 w _ ?side1 ?side2 A53.out).mono ?_); (case side1 => repeat (first | (with_reducible first | exact HI368.out | apply IsS53.alloc | apply IsS53.drewN | apply IsS53.drew | apply IsS53.set_1 | apply IsS53.set_2 | refine IsS53.far ?_ NB368_380.out _) | exact HI368.out)); (case side2 => repeat (first | (with_reducible first | exact HB.out | apply below_alloc | apply pw_below_drewN | apply below_drew1 | refine below_set ?_ (IsS53.ge HI368.out) | refine below_set ?_ GE380.out) | exact HB.out | exact Below.refl _ _)); rintro e w65 ⟨rfl, hi, hb, hk⟩; have n0_ := Aside0.mk (KeepBut.blk hk (g' := gb380) (o := .cells #[.int .i64 ((rd_T42 l1 x26_1).f0), .int .i64 ((rd_T42 l1 x26_1).f1)] 42 (0, 0)) (by (with_reducible repeat (first | refine blk_drewN ?_ _ | refine blk_drew ?_ | refine blk_alloc ?_ _)); exact BK380.out) NB380_368.out (by simp)); have n1_ := Aside0.mk (hb); have n2_ := Aside0.mk (hi); clear BK380; clear HB; clear HI368; have BK380 := n0_; have HB := n1_; have HI368 := n2_; clear n0_ n1_ n2_; (try clear hb); (try clear hb2); (try clear hk); (try clear hi)))
                                    go_roundg kj11
                                    case measure => have := HK1.out; have := HJ11.out; omega
                                    case rel => exact ⟨(wrap64 (x26_1 + 1)), (t413), (t414), (by first | rfl | (simp; done) | (simp [*]; done)), H', ⟨by have := HK1.out; have := HJ11.out; omega⟩, ⟨by repeat (first | (with_reducible first | exact HI368.out | apply IsS53.alloc | apply IsS53.drewN | apply IsS53.drew | apply IsS53.set_1 | apply IsS53.set_2 | refine IsS53.far ?_ NB368_380.out _) | exact HI368.out)⟩, ⟨by repeat (first | (with_reducible first | exact HB.out | apply below_alloc | apply pw_below_drewN | apply below_drew1 | refine below_set ?_ (IsS53.ge HI368.out) | refine below_set ?_ GE380.out) | exact HB.out | exact Below.refl _ _)⟩⟩
                                · rw [if_neg c56] at H
                                  have c56b0 : (x11_11 == 0) = false := beq_eq_false_iff_ne.mpr c56
                                  have c56b1 : (x11_11 != 0) = true := bne_iff_ne.mpr c56
                                  obtain rfl := Option.some.inj H
                                  go_wp2_with (first | ((with_reducible refine gate_callee (f := 28) rfl ?_); refine goesL_ (some 59) rfl rfl Try.func28 (by kernel_rfl) rfl #[.pointer (some ⟨g368, 0, none⟩)] rfl (by (try simp only [List.map_toArray, List.map_cons, List.map_nil]); first | done | rfl | (simp only [List.length_drop, List.length_take]; rfl)) ?_; (with_reducible refine (octets_Reader_At.calls g368 t365 x369001_11 x369002_11 t403 t404 t405 w _ ?side1 ?side2 A38.out).mono ?_); (case side1 => repeat (first | (with_reducible first | exact HI368.out | apply IsS53.alloc | apply IsS53.drewN | apply IsS53.drew | apply IsS53.set_1 | apply IsS53.set_2 | refine IsS53.far ?_ NB368_380.out _) | exact HI368.out)); (case side2 => repeat (first | (with_reducible first | exact HB.out | apply below_alloc | apply pw_below_drewN | apply below_drew1 | refine below_set ?_ (IsS53.ge HI368.out) | refine below_set ?_ GE380.out) | exact HB.out | exact Below.refl _ _)); rintro e w66 ⟨rfl, hi, hb, hk⟩; refine ⟨_, rfl, ?_⟩; have n0_ := Aside0.mk (KeepBut.blk hk (g' := gb380) (o := .cells #[.int .i64 ((rd_T42 l1 x26_1).f0), .int .i64 ((rd_T42 l1 x26_1).f1)] 42 (0, 0)) (by (with_reducible repeat (first | refine blk_drewN ?_ _ | refine blk_drew ?_ | refine blk_alloc ?_ _)); exact BK380.out) NB380_368.out (by simp)); have n1_ := Aside0.mk (hb); have n2_ := Aside0.mk (hi); clear BK380; clear HB; clear HI368; have BK380 := n0_; have HB := n1_; have HI368 := n2_; clear n0_ n1_ n2_; (try clear hb); (try clear hb2); (try clear hk); (try clear hi)) | (go_at_call 28; (with_reducible refine (octets_Reader_At.calls g368 t365 t404 t405 t406 t407 t408 w _ ?side1 ?side2 A41.out).mono ?_); (case side1 => repeat (first | (with_reducible first | exact HI368.out | apply IsS53.alloc | apply IsS53.drewN | apply IsS53.drew | apply IsS53.set_1 | apply IsS53.set_2 | refine IsS53.far ?_ NB368_380.out _) | exact HI368.out)); (case side2 => repeat (first | (with_reducible first | exact HB.out | apply below_alloc | apply pw_below_drewN | apply below_drew1 | refine below_set ?_ (IsS53.ge HI368.out) | refine below_set ?_ GE380.out) | exact HB.out | exact Below.refl _ _)); rintro e w67 ⟨rfl, hi, hb, hk⟩; have n0_ := Aside0.mk (KeepBut.blk hk (g' := gb380) (o := .cells #[.int .i64 ((rd_T42 l1 x26_1).f0), .int .i64 ((rd_T42 l1 x26_1).f1)] 42 (0, 0)) (by (with_reducible repeat (first | refine blk_drewN ?_ _ | refine blk_drew ?_ | refine blk_alloc ?_ _)); exact BK380.out) NB380_368.out (by simp)); have n1_ := Aside0.mk (hb); have n2_ := Aside0.mk (hi); clear BK380; clear HB; clear HI368; have BK380 := n0_; have HB := n1_; have HI368 := n2_; clear n0_ n1_ n2_; (try clear hb); (try clear hb2); (try clear hk); (try clear hi)) | (go_at_call 27; (with_reducible refine (octets_Reader_End.calls g368 t365 t407 t408 t409 t410 t411 w _ ?side1 ?side2 A51.out).mono ?_); (case side1 => repeat (first | (with_reducible first | exact HI368.out | apply IsS53.alloc | apply IsS53.drewN | apply IsS53.drew | apply IsS53.set_1 | apply IsS53.set_2 | refine IsS53.far ?_ NB368_380.out _) | exact HI368.out)); (case side2 => repeat (first | (with_reducible first | exact HB.out | apply below_alloc | apply pw_below_drewN | apply below_drew1 | refine below_set ?_ (IsS53.ge HI368.out) | refine below_set ?_ GE380.out) | exact HB.out | exact Below.refl _ _)); rintro e w68 ⟨rfl, hi, hb, hk⟩; have n0_ := Aside0.mk (KeepBut.blk hk (g' := gb380) (o := .cells #[.int .i64 ((rd_T42 l1 x26_1).f0), .int .i64 ((rd_T42 l1 x26_1).f1)] 42 (0, 0)) (by (with_reducible repeat (first | refine blk_drewN ?_ _ | refine blk_drew ?_ | refine blk_alloc ?_ _)); exact BK380.out) NB380_368.out (by simp)); have n1_ := Aside0.mk (hb); have n2_ := Aside0.mk (hi); clear BK380; clear HB; clear HI368; have BK380 := n0_; have HB := n1_; have HI368 := n2_; clear n0_ n1_ n2_; (try clear hb); (try clear hb2); (try clear hk); (try clear hi)) | (go_at_call 28; (with_reducible refine (octets_Reader_At.calls g368 t365 t410 t411 t412 t413 t414 w _ ?side1 ?side2 A53.out).mono ?_); (case side1 => repeat (first | (with_reducible first | exact HI368.out | apply IsS53.alloc | apply IsS53.drewN | apply IsS53.drew | apply IsS53.set_1 | apply IsS53.set_2 | refine IsS53.far ?_ NB368_380.out _) | exact HI368.out)); (case side2 => repeat (first | (with_reducible first | exact HB.out | apply below_alloc | apply pw_below_drewN | apply below_drew1 | refine below_set ?_ (IsS53.ge HI368.out) | refine below_set ?_ GE380.out) | exact HB.out | exact Below.refl _ _)); rintro e w69 ⟨rfl, hi, hb, hk⟩; have n0_ := Aside0.mk (KeepBut.blk hk (g' := gb380) (o := .cells #[.int .i64 ((rd_T42 l1 x26_1).f0), .int .i64 ((rd_T42 l1 x26_1).f1)] 42 (0, 0)) (by (with_reducible repeat (first | refine blk_drewN ?_ _ | refine blk_drew ?_ | refine blk_alloc ?_ _)); exact BK380.out) NB380_368.out (by simp)); have n1_ := Aside0.mk (hb); have n2_ := Aside0.mk (hi); clear BK380; clear HB; clear HI368; have BK380 := n0_; have HB := n1_; have HI368 := n2_; clear n0_ n1_ n2_; (try clear hb); (try clear hb2); (try clear hk); (try clear hi)))
                                  go_ret
                                  (first | refine ⟨w, HWN.out, ?_⟩ | refine ⟨w, Below.refl _ _, ?_⟩)
                                  exact ⟨by first | rfl | (simp [errW_none, errW_some] <;> rfl) | (simp [*, errW_none, errW_some] <;> rfl), by repeat (first | (with_reducible first | exact HB.out | apply below_alloc | apply pw_below_drewN | apply below_drew1 | refine below_set ?_ (IsS53.ge HI368.out) | refine below_set ?_ GE380.out) | exact HB.out | exact Below.refl _ _)⟩
                              · rw [if_neg c55] at H
                                have c55b0 : (x10_11 == 0) = false := beq_eq_false_iff_ne.mpr c55
                                have c55b1 : (x10_11 != 0) = true := bne_iff_ne.mpr c55
                                obtain rfl := Option.some.inj H
                                go_wp2_with (first | ((with_reducible refine gate_callee (f := 28) rfl ?_); refine goesL_ (some 59) rfl rfl Try.func28 (by kernel_rfl) rfl #[.pointer (some ⟨g368, 0, none⟩)] rfl (by (try simp only [List.map_toArray, List.map_cons, List.map_nil]); first | done | rfl | (simp only [List.length_drop, List.length_take]; rfl)) ?_; (with_reducible refine (octets_Reader_At.calls g368 t365 x369001_11 x369002_11 t403 t404 t405 w _ ?side1 ?side2 A38.out).mono ?_); (case side1 => repeat (first | (with_reducible first | exact HI368.out | apply IsS53.alloc | apply IsS53.drewN | apply IsS53.drew | apply IsS53.set_1 | apply IsS53.set_2 | refine IsS53.far ?_ NB368_380.out _) | exact HI368.out)); (case side2 => repeat (first | (with_reducible first | exact HB.out | apply below_alloc | apply pw_below_drewN | apply below_drew1 | refine below_set ?_ (IsS53.ge HI368.out) | refine below_set ?_ GE380.out) | exact HB.out | exact Below.refl _ _)); rintro e w70 ⟨rfl, hi, hb, hk⟩; refine ⟨_, rfl, ?_⟩; have n0_ := Aside0.mk (KeepBut.blk hk (g' := gb380) (o := .cells #[.int .i64 ((rd_T42 l1 x26_1).f0), .int .i64 ((rd_T42 l1 x26_1).f1)] 42 (0, 0)) (by (with_reducible repeat (first | refine blk_drewN ?_ _ | refine blk_drew ?_ | refine blk_alloc ?_ _)); exact BK380.out) NB380_368.out (by simp)); have n1_ := Aside0.mk (hb); have n2_ := Aside0.mk (hi); clear BK380; clear HB; clear HI368; have BK380 := n0_; have HB := n1_; have HI368 := n2_; clear n0_ n1_ n2_; (try clear hb); (try clear hb2); (try clear hk); (try clear hi)) | (go_at_call 28; (with_reducible refine (octets_Reader_At.calls g368 t365 t404 t405 t406 t407 t408 w _ ?side1 ?side2 A41.out).mono ?_); (case side1 => repeat (first | (with_reducible first | exact HI368.out | apply IsS53.alloc | apply IsS53.drewN | apply IsS53.drew | apply IsS53.set_1 | apply IsS53.set_2 | refine IsS53.far ?_ NB368_380.out _) | exact HI368.out)); (case side2 => repeat (first | (with_reducible first | exact HB.out | apply below_alloc | apply pw_below_drewN | apply below_drew1 | refine below_set ?_ (IsS53.ge HI368.out) | refine below_set ?_ GE380.out) | exact HB.out | exact Below.refl _ _)); rintro e w71 ⟨rfl, hi, hb, hk⟩; have n0_ := Aside0.mk (KeepBut.blk hk (g' := gb380) (o := .cells #[.int .i64 ((rd_T42 l1 x26_1).f0), .int .i64 ((rd_T42 l1 x26_1).f1)] 42 (0, 0)) (by (with_reducible repeat (first | refine blk_drewN ?_ _ | refine blk_drew ?_ | refine blk_alloc ?_ _)); exact BK380.out) NB380_368.out (by simp)); have n1_ := Aside0.mk (hb); have n2_ := Aside0.mk (hi); clear BK380; clear HB; clear HI368; have BK380 := n0_; have HB := n1_; have HI368 := n2_; clear n0_ n1_ n2_; (try clear hb); (try clear hb2); (try clear hk); (try clear hi)) | (go_at_call 27; (with_reducible refine (octets_Reader_End.calls g368 t365 t407 t408 t409 t410 t411 w _ ?side1 ?side2 A51.out).mono ?_); (case side1 => repeat (first | (with_reducible first | exact HI368.out | apply IsS53.alloc | apply IsS53.drewN | apply IsS53.drew | apply IsS53.set_1 | apply IsS53.set_2 | refine IsS53.far ?_ NB368_380.out _) | exact HI368.out)); (case side2 => repeat (first | (with_reducible first | exact HB.out | apply below_alloc | apply pw_below_drewN | apply below_drew1 | refine below_set ?_ (IsS53.ge HI368.out) | refine below_set ?_ GE380.out) | exact HB.out | exact Below.refl _ _)); rintro e w72 ⟨rfl, hi, hb, hk⟩; have n0_ := Aside0.mk (KeepBut.blk hk (g' := gb380) (o := .cells #[.int .i64 ((rd_T42 l1 x26_1).f0), .int .i64 ((rd_T42 l1 x26_1).f1)] 42 (0, 0)) (by (with_reducible repeat (first | refine blk_drewN ?_ _ | refine blk_drew ?_ | refine blk_alloc ?_ _)); exact BK380.out) NB380_368.out (by simp)); have n1_ := Aside0.mk (hb); have n2_ := Aside0.mk (hi); clear BK380; clear HB; clear HI368; have BK380 := n0_; have HB := n1_; have HI368 := n2_; clear n0_ n1_ n2_; (try clear hb); (try clear hb2); (try clear hk); (try clear hi)) | (go_at_call 28; (with_reducible refine (octets_Reader_At.calls g368 t365 t410 t411 t412 t413 t414 w _ ?side1 ?side2 A53.out).mono ?_); (case side1 => repeat (first | (with_reducible first | exact HI368.out | apply IsS53.alloc | apply IsS53.drewN | apply IsS53.drew | apply IsS53.set_1 | apply IsS53.set_2 | refine IsS53.far ?_ NB368_380.out _) | exact HI368.out)); (case side2 => repeat (first | (with_reducible first | exact HB.out | apply below_alloc | apply pw_below_drewN | apply below_drew1 | refine below_set ?_ (IsS53.ge HI368.out) | refine below_set ?_ GE380.out) | exact HB.out | exact Below.refl _ _)); rintro e w73 ⟨rfl, hi, hb, hk⟩; have n0_ := Aside0.mk (KeepBut.blk hk (g' := gb380) (o := .cells #[.int .i64 ((rd_T42 l1 x26_1).f0), .int .i64 ((rd_T42 l1 x26_1).f1)] 42 (0, 0)) (by (with_reducible repeat (first | refine blk_drewN ?_ _ | refine blk_drew ?_ | refine blk_alloc ?_ _)); exact BK380.out) NB380_368.out (by simp)); have n1_ := Aside0.mk (hb); have n2_ := Aside0.mk (hi); clear BK380; clear HB; clear HI368; have BK380 := n0_; have HB := n1_; have HI368 := n2_; clear n0_ n1_ n2_; (try clear hb); (try clear hb2); (try clear hk); (try clear hi)))
                                go_ret
                                (first | refine ⟨w, HWN.out, ?_⟩ | refine ⟨w, Below.refl _ _, ?_⟩)
                                exact ⟨by first | rfl | (simp [errW_none, errW_some] <;> rfl) | (simp [*, errW_none, errW_some] <;> rfl), by repeat (first | (with_reducible first | exact HB.out | apply below_alloc | apply pw_below_drewN | apply below_drew1 | refine below_set ?_ (IsS53.ge HI368.out) | refine below_set ?_ GE380.out) | exact HB.out | exact Below.refl _ _)⟩
                            · rw [if_neg c54] at H
                              have c54b0 : (t412 == t384) = false := beq_eq_false_iff_ne.mpr c54
                              have c54b1 : (t412 != t384) = true := bne_iff_ne.mpr c54
                              obtain rfl := Option.some.inj H
                              go_wp2_with (first | ((with_reducible refine gate_callee (f := 28) rfl ?_); refine goesL_ (some 59) rfl rfl Try.func28 (by kernel_rfl) rfl #[.pointer (some ⟨g368, 0, none⟩)] rfl (by (try simp only [List.map_toArray, List.map_cons, List.map_nil]); first | done | rfl | (simp only [List.length_drop, List.length_take]; rfl)) ?_; (with_reducible refine (octets_Reader_At.calls g368 t365 x369001_11 x369002_11 t403 t404 t405 w _ ?side1 ?side2 A38.out).mono ?_); (case side1 => repeat (first | (with_reducible first | exact HI368.out | apply IsS53.alloc | apply IsS53.drewN | apply IsS53.drew | apply IsS53.set_1 | apply IsS53.set_2 | refine IsS53.far ?_ NB368_380.out _) | exact HI368.out)); (case side2 => repeat (first | (with_reducible first | exact HB.out | apply below_alloc | apply pw_below_drewN | apply below_drew1 | refine below_set ?_ (IsS53.ge HI368.out) | refine below_set ?_ GE380.out) | exact HB.out | exact Below.refl _ _)); rintro e w74 ⟨rfl, hi, hb, hk⟩; refine ⟨_, rfl, ?_⟩; have n0_ := Aside0.mk (KeepBut.blk hk (g' := gb380) (o := .cells #[.int .i64 ((rd_T42 l1 x26_1).f0), .int .i64 ((rd_T42 l1 x26_1).f1)] 42 (0, 0)) (by (with_reducible repeat (first | refine blk_drewN ?_ _ | refine blk_drew ?_ | refine blk_alloc ?_ _)); exact BK380.out) NB380_368.out (by simp)); have n1_ := Aside0.mk (hb); have n2_ := Aside0.mk (hi); clear BK380; clear HB; clear HI368; have BK380 := n0_; have HB := n1_; have HI368 := n2_; clear n0_ n1_ n2_; (try clear hb); (try clear hb2); (try clear hk); (try clear hi)) | (go_at_call 28; (with_reducible refine (octets_Reader_At.calls g368 t365 t404 t405 t406 t407 t408 w _ ?side1 ?side2 A41.out).mono ?_); (case side1 => repeat (first | (with_reducible first | exact HI368.out | apply IsS53.alloc | apply IsS53.drewN | apply IsS53.drew | apply IsS53.set_1 | apply IsS53.set_2 | refine IsS53.far ?_ NB368_380.out _) | exact HI368.out)); (case side2 => repeat (first | (with_reducible first | exact HB.out | apply below_alloc | apply pw_below_drewN | apply below_drew1 | refine below_set ?_ (IsS53.ge HI368.out) | refine below_set ?_ GE380.out) | exact HB.out | exact Below.refl _ _)); rintro e w75 ⟨rfl, hi, hb, hk⟩; have n0_ := Aside0.mk (KeepBut.blk hk (g' := gb380) (o := .cells #[.int .i64 ((rd_T42 l1 x26_1).f0), .int .i64 ((rd_T42 l1 x26_1).f1)] 42 (0, 0)) (by (with_reducible repeat (first | refine blk_drewN ?_ _ | refine blk_drew ?_ | refine blk_alloc ?_ _)); exact BK380.out) NB380_368.out (by simp)); have n1_ := Aside0.mk (hb); have n2_ := Aside0.mk (hi); clear BK380; clear HB; clear HI368; have BK380 := n0_; have HB := n1_; have HI368 := n2_; clear n0_ n1_ n2_; (try clear hb); (try clear hb2); (try clear hk); (try clear hi)) | (go_at_call 27; (with_reducible refine (octets_Reader_End.calls g368 t365 t407 t408 t409 t410 t411 w _ ?side1 ?side2 A51.out).mono ?_); (case side1 => repeat (first | (with_reducible first | exact HI368.out | apply IsS53.alloc | apply IsS53.drewN | apply IsS53.drew | apply IsS53.set_1 | apply IsS53.set_2 | refine IsS53.far ?_ NB368_380.out _) | exact HI368.out)); (case side2 => repeat (first | (with_reducible first | exact HB.out | apply below_alloc | apply pw_below_drewN | apply below_drew1 | refine below_set ?_ (IsS53.ge HI368.out) | refine below_set ?_ GE380.out) | exact HB.out | exact Below.refl _ _)); rintro e w76 ⟨rfl, hi, hb, hk⟩; have n0_ := Aside0.mk (KeepBut.blk hk (g' := gb380) (o := .cells #[.int .i64 ((rd_T42 l1 x26_1).f0), .int .i64 ((rd_T42 l1 x26_1).f1)] 42 (0, 0)) (by (with_reducible repeat (first | refine blk_drewN ?_ _ | refine blk_drew ?_ | refine blk_alloc ?_ _)); exact BK380.out) NB380_368.out (by simp)); have n1_ := Aside0.mk (hb); have n2_ := Aside0.mk (hi); clear BK380; clear HB; clear HI368; have BK380 := n0_; have HB := n1_; have HI368 := n2_; clear n0_ n1_ n2_; (try clear hb); (try clear hb2); (try clear hk); (try clear hi)) | (go_at_call 28; (with_reducible refine (octets_Reader_At.calls g368 t365 t410 t411 t412 t413 t414 w _ ?side1 ?side2 A53.out).mono ?_); (case side1 => repeat (first | (with_reducible first | exact HI368.out | apply IsS53.alloc | apply IsS53.drewN | apply IsS53.drew | apply IsS53.set_1 | apply IsS53.set_2 | refine IsS53.far ?_ NB368_380.out _) | exact HI368.out)); (case side2 => repeat (first | (with_reducible first | exact HB.out | apply below_alloc | apply pw_below_drewN | apply below_drew1 | refine below_set ?_ (IsS53.ge HI368.out) | refine below_set ?_ GE380.out) | exact HB.out | exact Below.refl _ _)); rintro e w77 ⟨rfl, hi, hb, hk⟩; have n0_ := Aside0.mk (KeepBut.blk hk (g' := gb380) (o := .cells #[.int .i64 ((rd_T42 l1 x26_1).f0), .int .i64 ((rd_T42 l1 x26_1).f1)] 42 (0, 0)) (by (with_reducible repeat (first | refine blk_drewN ?_ _ | refine blk_drew ?_ | refine blk_alloc ?_ _)); exact BK380.out) NB380_368.out (by simp)); have n1_ := Aside0.mk (hb); have n2_ := Aside0.mk (hi); clear BK380; clear HB; clear HI368; have BK380 := n0_; have HB := n1_; have HI368 := n2_; clear n0_ n1_ n2_; (try clear hb); (try clear hb2); (try clear hk); (try clear hi)))
                              go_ret
                              (first | refine ⟨w, HWN.out, ?_⟩ | refine ⟨w, Below.refl _ _, ?_⟩)
                              exact ⟨by first | rfl | (simp [errW_none, errW_some] <;> rfl) | (simp [*, errW_none, errW_some] <;> rfl), by repeat (first | (with_reducible first | exact HB.out | apply below_alloc | apply pw_below_drewN | apply below_drew1 | refine below_set ?_ (IsS53.ge HI368.out) | refine below_set ?_ GE380.out) | exact HB.out | exact Below.refl _ _)⟩
                          · rw [if_neg c52] at H
                            have c52b0 : (t409 == t381) = false := beq_eq_false_iff_ne.mpr c52
                            have c52b1 : (t409 != t381) = true := bne_iff_ne.mpr c52
                            obtain rfl := Option.some.inj H
                            go_wp2_with (first | ((with_reducible refine gate_callee (f := 28) rfl ?_); refine goesL_ (some 59) rfl rfl Try.func28 (by kernel_rfl) rfl #[.pointer (some ⟨g368, 0, none⟩)] rfl (by (try simp only [List.map_toArray, List.map_cons, List.map_nil]); first | done | rfl | (simp only [List.length_drop, List.length_take]; rfl)) ?_; (with_reducible refine (octets_Reader_At.calls g368 t365 x369001_11 x369002_11 t403 t404 t405 w _ ?side1 ?side2 A38.out).mono ?_); (case side1 => repeat (first | (with_reducible first | exact HI368.out | apply IsS53.alloc | apply IsS53.drewN | apply IsS53.drew | apply IsS53.set_1 | apply IsS53.set_2 | refine IsS53.far ?_ NB368_380.out _) | exact HI368.out)); (case side2 => repeat (first | (with_reducible first | exact HB.out | apply below_alloc | apply pw_below_drewN | apply below_drew1 | refine below_set ?_ (IsS53.ge HI368.out) | refine below_set ?_ GE380.out) | exact HB.out | exact Below.refl _ _)); rintro e w78 ⟨rfl, hi, hb, hk⟩; refine ⟨_, rfl, ?_⟩; have n0_ := Aside0.mk (KeepBut.blk hk (g' := gb380) (o := .cells #[.int .i64 ((rd_T42 l1 x26_1).f0), .int .i64 ((rd_T42 l1 x26_1).f1)] 42 (0, 0)) (by (with_reducible repeat (first | refine blk_drewN ?_ _ | refine blk_drew ?_ | refine blk_alloc ?_ _)); exact BK380.out) NB380_368.out (by simp)); have n1_ := Aside0.mk (hb); have n2_ := Aside0.mk (hi); clear BK380; clear HB; clear HI368; have BK380 := n0_; have HB := n1_; have HI368 := n2_; clear n0_ n1_ n2_; (try clear hb); (try clear hb2); (try clear hk); (try clear hi)) | (go_at_call 28; (with_reducible refine (octets_Reader_At.calls g368 t365 t404 t405 t406 t407 t408 w _ ?side1 ?side2 A41.out).mono ?_); (case side1 => repeat (first | (with_reducible first | exact HI368.out | apply IsS53.alloc | apply IsS53.drewN | apply IsS53.drew | apply IsS53.set_1 | apply IsS53.set_2 | refine IsS53.far ?_ NB368_380.out _) | exact HI368.out)); (case side2 => repeat (first | (with_reducible first | exact HB.out | apply below_alloc | apply pw_below_drewN | apply below_drew1 | refine below_set ?_ (IsS53.ge HI368.out) | refine below_set ?_ GE380.out) | exact HB.out | exact Below.refl _ _)); rintro e w79 ⟨rfl, hi, hb, hk⟩; have n0_ := Aside0.mk (KeepBut.blk hk (g' := gb380) (o := .cells #[.int .i64 ((rd_T42 l1 x26_1).f0), .int .i64 ((rd_T42 l1 x26_1).f1)] 42 (0, 0)) (by (with_reducible repeat (first | refine blk_drewN ?_ _ | refine blk_drew ?_ | refine blk_alloc ?_ _)); exact BK380.out) NB380_368.out (by simp)); have n1_ := Aside0.mk (hb); have n2_ := Aside0.mk (hi); clear BK380; clear HB; clear HI368; have BK380 := n0_; have HB := n1_; have HI368 := n2_; clear n0_ n1_ n2_; (try clear hb); (try clear hb2); (try clear hk); (try clear hi)) | (go_at_call 27; (with_reducible refine (octets_Reader_End.calls g368 t365 t407 t408 t409 t410 t411 w _ ?side1 ?side2 A51.out).mono ?_); (case side1 => repeat (first | (with_reducible first | exact HI368.out | apply IsS53.alloc | apply IsS53.drewN | apply IsS53.drew | apply IsS53.set_1 | apply IsS53.set_2 | refine IsS53.far ?_ NB368_380.out _) | exact HI368.out)); (case side2 => repeat (first | (with_reducible first | exact HB.out | apply below_alloc | apply pw_below_drewN | apply below_drew1 | refine below_set ?_ (IsS53.ge HI368.out) | refine below_set ?_ GE380.out) | exact HB.out | exact Below.refl _ _)); rintro e w80 ⟨rfl, hi, hb, hk⟩; have n0_ := Aside0.mk (KeepBut.blk hk (g' := gb380) (o := .cells #[.int .i64 ((rd_T42 l1 x26_1).f0), .int .i64 ((rd_T42 l1 x26_1).f1)] 42 (0, 0)) (by (with_reducible repeat (first | refine blk_drewN ?_ _ | refine blk_drew ?_ | refine blk_alloc ?_ _)); exact BK380.out) NB380_368.out (by simp)); have n1_ := Aside0.mk (hb); have n2_ := Aside0.mk (hi); clear BK380; clear HB; clear HI368; have BK380 := n0_; have HB := n1_; have HI368 := n2_; clear n0_ n1_ n2_; (try clear hb); (try clear hb2); (try clear hk); (try clear hi)))
                            go_ret
                            (first | refine ⟨w, HWN.out, ?_⟩ | refine ⟨w, Below.refl _ _, ?_⟩)
                            exact ⟨by first | rfl | (simp [errW_none, errW_some] <;> rfl) | (simp [*, errW_none, errW_some] <;> rfl), by repeat (first | (with_reducible first | exact HB.out | apply below_alloc | apply pw_below_drewN | apply below_drew1 | refine below_set ?_ (IsS53.ge HI368.out) | refine below_set ?_ GE380.out) | exact HB.out | exact Below.refl _ _)⟩
            · rw [if_neg c9] at H
              exact absurd H (by simp)
          · rw [if_neg c8] at H
            exact absurd H (by simp)
        · rw [if_neg c7] at H
          have c7b0 : decide (x26_1 < (l1.length : Int)) = false := decide_eq_false c7
          clear c7
          obtain ⟨y369, hy369⟩ : ∃ y_ : List Int, y_ = (([9] : List Int)) := ⟨_, rfl⟩
          replace H : ((octets_NewReader.f y369).bind fun bt372 => ((octets_Reader_End.f bt372.1 bt372.2.1 bt372.2.2).bind fun bt376 => (some (bt376.1 == 5)))) = some r := by first | (rw [hy369]; with_reducible exact H) | (have H2_ := (Option.bind_some _ _).symm.trans H; rw [hy369]; with_reducible exact H2_) | (have H2_ := (Option.bind_some _ _).symm.trans H; with_reducible exact H2_) | with_reducible exact H | (rw [hy369]; exact H) | exact H
          have Ny369 := Aside0.mk hy369
          clear hy369
          replace H := Option.bind_eq_some_iff.mp H
          obtain ⟨⟨t372, t373, t374⟩, A810, H⟩ := H
          replace H : ((octets_Reader_End.f t372 t373 t374).bind fun bt376 => (some (bt376.1 == 5))) = some r := H
          have A81 := Aside0.mk A810
          clear A810
          replace H := Option.bind_eq_some_iff.mp H
          obtain ⟨⟨t376, t377, t378⟩, A820, H⟩ := H
          replace H : (some (t376 == 5)) = some r := H
          have A82 := Aside0.mk A820
          clear A820
          obtain rfl := Option.some.inj H
          go_wp2_with (first | ((with_reducible refine gate_dst (N := 105) rfl ?_); (try (refine gate_guard (by rfl) ?_; dsimp only)); refine Kd.R_lit (Kd.int .u8) _ 5 ?hg (N := 105) ?hd (xs := ([9] : List Int)) (inner := [.int .u8 9]) (ok := fun _ => True) (okp := fun _ => True) ?hr ?hp (fun _ hk => hk) trivial (Below.refl _ _) (Nat.le_refl _) (by simp) ?_; (case hd => rfl); (case hg => rfl); (case hr => first | (go_simp; done) | (go_simp; rfl)); (case hp => exact (Reps.one (show Kd.M (Kd.int .u8) _ _ _ 9 [.int .u8 9] from rfl) (Reps.none _ _))); intro v370 w83 ho84 hb hg_ hnew_; clear hg_ hnew_; (first | rw [← Ny369.out] at ho84 | (simp only [Int.reduceToNat] at ho84; rw [← Ny369.out] at ho84)); have n0_ := Aside0.mk (Kd.R_lower ho84 (below_size (by repeat (first | (with_reducible first | exact HB.out | apply below_alloc | apply pw_below_drewN | apply below_drew1 | refine below_set ?_ (IsS53.ge HI368.out)) | exact HB.out | exact Below.refl _ _)))); have n1_ := Aside0.mk (IsS53.below (by repeat (first | (with_reducible first | exact HI368.out | apply IsS53.alloc | apply IsS53.drewN | apply IsS53.drew | apply IsS53.set_1 | apply IsS53.set_2) | exact HI368.out)) hb); have n2_ := Aside0.mk (below_step (by repeat (first | (with_reducible first | exact HB.out | apply below_alloc | apply pw_below_drewN | apply below_drew1 | refine below_set ?_ (IsS53.ge HI368.out)) | exact HB.out | exact Below.refl _ _)) hb); clear HI368; clear HB; have HO371 := n0_; have HI368 := n1_; have HB := n2_; clear n0_ n1_ n2_; clear hb ho84; obtain ⟨Ao85, co85, eo85⟩ := Kd.R_slice HO371.out; subst eo85) | ((with_reducible refine gate_callee (f := 26) rfl ?_); refine goesL_ (some 106) rfl rfl Try.func26 (by kernel_rfl) rfl #[.slice Ao85 y369.length co85] rfl (by (try simp only [List.map_toArray, List.map_cons, List.map_nil]); first | done | rfl | (simp only [List.length_drop, List.length_take]; rfl)) ?_; (with_reducible refine (octets_NewReader.calls _ _ y369 t372 t373 t374 w _ ?side1 ?side2 ?side3 A81.out).mono ?_); (case side1 => repeat (first | (with_reducible first | exact HB.out | apply below_alloc | apply pw_below_drewN | apply below_drew1 | refine below_set ?_ (IsS53.ge HI368.out)) | exact HB.out | exact Below.refl _ _)); (case side2 => repeat (first | exact (Kd.R_reads' HO371.out).2.2 | (with_reducible refine Kd.C_alloc ?_ _) | (with_reducible refine Kd.C_drewN ?_ _) | (with_reducible refine Kd.C_drew ?_))); (case side3 => exact (Kd.R_reads' HO371.out).2.1); obtain ⟨wX, rfl⟩ : ∃ y_ : World, y_ = w := ⟨_, rfl⟩; rintro e w86 ⟨w, g375, rfl, hb1, hi, hb⟩; refine ⟨_, rfl, ?_⟩; have HWP := Aside0.mk (below_step (by repeat (first | (with_reducible first | exact HB.out | apply below_alloc | apply pw_below_drewN | apply below_drew1 | refine below_set ?_ (IsS53.ge HI368.out)) | exact HB.out | exact Below.refl _ _)) hb1); (first | (have HWQ := Aside0.mk (below_step HWN.out HWP.out)) | (have HWQ := HWP)); (try clear HWN); have HWN := HWQ; clear HWQ; have n0_ := Aside0.mk (Kd.C_below HR0.out HWP.out); have n1_ := Aside0.mk (Kd.C_below HR1.out HWP.out); have n2_ := Aside0.mk (hb); have n3_ := Aside0.mk (hi); clear HR0; clear HR1; clear HB; have HR0 := n0_; have HR1 := n1_; have HB := n2_; have HI375 := n3_; clear n0_ n1_ n2_ n3_; (try clear hb); (try clear hb2); (try clear hk); (try clear hi)) | ((with_reducible refine gate_callee (f := 27) rfl ?_); refine goesL_ (some 107) rfl rfl Try.func27 (by kernel_rfl) rfl #[.pointer (some ⟨g375, 0, none⟩)] rfl (by (try simp only [List.map_toArray, List.map_cons, List.map_nil]); first | done | rfl | (simp only [List.length_drop, List.length_take]; rfl)) ?_; (with_reducible refine (octets_Reader_End.calls g375 t372 t373 t374 t376 t377 t378 w _ ?side1 ?side2 A82.out).mono ?_); (case side1 => repeat (first | (with_reducible first | exact HI375.out | apply IsS53.alloc | apply IsS53.drewN | apply IsS53.drew | apply IsS53.set_1 | apply IsS53.set_2) | exact HI375.out)); (case side2 => repeat (first | (with_reducible first | exact HB.out | apply below_alloc | apply pw_below_drewN | apply below_drew1 | refine below_set ?_ (IsS53.ge HI375.out)) | exact HB.out | exact Below.refl _ _)); rintro e w87 ⟨rfl, hi, hb, hk⟩; refine ⟨_, rfl, ?_⟩; have n0_ := Aside0.mk (hb); have n1_ := Aside0.mk (hi); clear HB; clear HI375; have HB := n0_; have HI375 := n1_; clear n0_ n1_; (try clear hb); (try clear hb2); (try clear hk); (try clear hi)))
          go_ret
          (first | refine ⟨w, HWN.out, ?_⟩ | refine ⟨w, Below.refl _ _, ?_⟩)
          exact ⟨by first | rfl | (simp [errW_none, errW_some] <;> rfl) | (simp [*, errW_none, errW_some] <;> rfl), by repeat (first | (with_reducible first | exact HB.out | apply below_alloc | apply pw_below_drewN | apply below_drew1 | refine below_set ?_ (IsS53.ge HI375.out)) | exact HB.out | exact Below.refl _ _)⟩


theorem terrierlaw01_OctetsStops.calls (k : Nat) (A0 : Option Addr) (c0 : Nat) (l0 : List Int) (A1 : Option Addr) (c1 : Nat) (l1 : List (S42)) (r : Bool) (w : World) (hr0 : Kd.C (Kd.int .u8) w A0 l0.length l0) (hc0 : l0.length ≤ c0) (hr1 : Kd.C k42 w A1 l1.length l1) (hc1 : l1.length ≤ c1) (h : terrierlaw01_OctetsStops.f k l0 l1 = some r) :
    Calls Try.prog 10 #[.slice A0 l0.length c0, .slice A1 l1.length c1] w fun e w' => e = .returned (.bool r) ∧ Below w.heap.size w w' := by
  refine (terrierlaw01_OctetsStops.calls0 k A0 c0 l0 A1 c1 l1 r w hr0 hc0 hr1 hc1 h).mono ?_
  rintro e w' ⟨wN_, hwn_, he_, hb_⟩
  exact ⟨he_, below_step hwn_ hb_⟩
/-- THE ONE PURE STATEMENT of terrierlaw01_OctetsStops: yours. -/
def terrierlaw01_OctetsStops.Pure : Prop := ∀ (l0 : List Int) (l1 : List (S42)), (Open.okSlice (fun y_ => (Lit.int .u8 y_).wf = true) 1 l0) → (Open.okSlice ok42 16 l1) → ∃ k, terrierlaw01_OctetsStops.f k l0 l1 = some true
theorem terrierlaw01_OctetsStops.walk (P : terrierlaw01_OctetsStops.Pure) (A0 : Option Addr) (c0 : Nat) (l0 : List Int) (A1 : Option Addr) (c1 : Nat) (l1 : List (S42)) (w : World) (hk0 : Open.okSlice (fun y_ => (Lit.int .u8 y_).wf = true) 1 l0) (hr0 : Kd.C (Kd.int .u8) w A0 l0.length l0) (hc0 : l0.length ≤ c0) (hk1 : Open.okSlice ok42 16 l1) (hr1 : Kd.C k42 w A1 l1.length l1) (hc1 : l1.length ≤ c1) :
    Calls Try.prog 10 #[.slice A0 l0.length c0, .slice A1 l1.length c1] w fun e w' => e = .returned (.bool true) ∧ Below w.heap.size w w' := by
  obtain ⟨k, h⟩ := P l0 l1 hk0 hk1
  refine (terrierlaw01_OctetsStops.calls k _ _ l0 _ _ l1 true w hr0 hc0 hr1 hc1 h).mono ?_
  rintro e w' ⟨rfl, hd⟩
  exact ⟨rfl, hd⟩

end Go.Proofs.Ytleonalpeicjaaa.PS
