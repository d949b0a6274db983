-- Written by wip/printx.py, a program of this work over the kit's print, for this claim.
import Derived.Test.YtcpapgfglgaogaaPSx0
import Derived.Test.YtcpapgfglgaogaaPSx5
namespace Go.Proofs.Ytcpapgfglgaogaa.PS
open Go.RowKit Go.Proofs.YtcpapgfglgaogaaW.PrintWords Go.Proofs.YtcpapgfglgaogaaW.PrintLast Go.Proofs.YtcpapgfglgaogaaW.PrintMore
attribute [local go_sem] max2_int min2_int max_two min_two max_three min_three max_four min_four   -- for this text's walks alone
attribute [local go_sem] Ext.pick_u8 Ext.pick_u32 Ext.pick_u64
set_option linter.unusedVariables false
set_option linter.unusedSimpArgs false

/-! ### terrierlaw10_lives: function 9 -/
def terrierlaw10_lives.f (k : Nat)  : Option (Bool) := (rev_Encode.f k 1 0 true).bind fun bt132 => (if bt132.2 = 0 then (if (bt132.1.length : Int) = 18 then (if 7 < (bt132.1.length : Int) then (if (rd bt132.1 7) = 1 then (if 17 < (bt132.1.length : Int) then (some ((rd bt132.1 17) == 116)) else (none)) else (some false)) else (none)) else (some false)) else (some false))
theorem terrierlaw10_lives.mono : ∀ k, LeO (terrierlaw10_lives.f k ) (terrierlaw10_lives.f (k + 1) ) := by
  intro  k
  unfold terrierlaw10_lives.f
  repeat' first
      | (with_reducible exact rev_Encode.mono _ _ _ _)
      | (with_reducible exact LeO.refl _)
      | (with_reducible exact LeO.none _)
      | (with_reducible refine LeO.ite ?_ ?_)
      | (with_reducible refine LeO.bind ?_ (fun _ => ?_))
      | exact rev_Encode.mono _ _ _ _
      | exact LeO.none _
      | refine LeO.ite ?_ ?_
      | refine LeO.bind ?_ (fun _ => ?_)
set_option maxHeartbeats 8000000 in
set_option maxRecDepth 100000 in
theorem terrierlaw10_lives.calls (k : Nat)  (r : Bool) (w : World) (h : terrierlaw10_lives.f k  = some r) :
    Calls Try.prog 9 #[] w fun e w' => e = .returned (.bool r) ∧ Below w.heap.size w w' := by
  have hu23 := Try.underlying23
  have HB := Aside0.mk (Below.refl w.heap.size w)
  have H : ((rev_Encode.f k 1 0 true).bind fun bt132 => (if bt132.2 = 0 then (if (bt132.1.length : Int) = 18 then (if 7 < (bt132.1.length : Int) then (if (rd bt132.1 7) = 1 then (if 17 < (bt132.1.length : Int) then (some ((rd bt132.1 17) == 116)) else (none)) else (some false)) else (none)) else (some false)) else (some false))) = some r := h
  clear h
  replace H := Option.bind_eq_some_iff.mp H
  obtain ⟨⟨t132, t135⟩, A10, H⟩ := H
  replace H : (if t135 = 0 then (if (t132.length : Int) = 18 then (if 7 < (t132.length : Int) then (if (rd t132 7) = 1 then (if 17 < (t132.length : Int) then (some ((rd t132 17) == 116)) else (none)) else (some false)) else (none)) else (some false)) else (some false)) = some r := H
  have A1 := Aside0.mk A10
  clear A10
  by_cases c2 : t135 = 0
  · rw [if_pos c2] at H
    have c2b0 : (t135 == 0) = true := beq_iff_eq.mpr c2
    have c2b1 : (t135 != 0) = false := bne_eq_false_iff_eq.mpr c2
    clear c2
    by_cases c3 : (t132.length : Int) = 18
    · rw [if_pos c3] at H
      have c3b0 : ((t132.length : Int) == 18) = true := beq_iff_eq.mpr c3
      have c3b1 : ((t132.length : Int) != 18) = false := bne_eq_false_iff_eq.mpr c3
      clear c3
      by_cases c4 : 7 < (t132.length : Int)
      · rw [if_pos c4] at H
        have c4b0 : decide (7 < (t132.length : Int)) = true := decide_eq_true c4
        have c4b1 : decide (7 < t132.length) = true := decide_eq_true (by omega)
        clear c4
        by_cases c5 : (rd t132 7) = 1
        · rw [if_pos c5] at H
          have c5b0 : ((rd t132 7) == 1) = true := beq_iff_eq.mpr c5
          have c5b1 : ((rd t132 7) != 1) = false := bne_eq_false_iff_eq.mpr c5
          clear c5
          by_cases c6 : 17 < (t132.length : Int)
          · rw [if_pos c6] at H
            have c6b0 : decide (17 < (t132.length : Int)) = true := decide_eq_true c6
            have c6b1 : decide (17 < t132.length) = true := decide_eq_true (by omega)
            clear c6
            obtain rfl := Option.some.inj H
            go_enter Try.func9, Try.ntmps9
            go_wp2_with (first | ((with_reducible refine gate_callee (f := 10) rfl ?_); refine goesL_ (some 5) rfl rfl Try.func10 (by kernel_rfl) rfl #[.agg #[.int .i64 1, .int .i64 0], .bool true] rfl (by (try simp only [List.map_toArray, List.map_cons, List.map_nil]); first | done | rfl | (simp only [List.length_drop, List.length_take]; rfl)) ?_; (with_reducible refine (rev_Encode.calls k 1 0 true t132 t135 _ A1.out).mono ?_); rintro e w7 ⟨v133, rfl, ho0, hb⟩; refine ⟨_, rfl, ?_⟩; have n0_ := Aside0.mk (Kd.R_lower ho0 (below_size (by repeat (first | (with_reducible first | exact HB.out | apply below_alloc | apply pw_below_drewN | apply below_drew1) | exact HB.out | exact Below.refl _ _)))); have n1_ := Aside0.mk (below_step (by repeat (first | (with_reducible first | exact HB.out | apply below_alloc | apply pw_below_drewN | apply below_drew1) | exact HB.out | exact Below.refl _ _)) hb); clear HB; have HO134 := n0_; have HB := n1_; clear n0_ n1_; (try clear hb); (try clear hb2); (try clear hk); (try clear hi); (try clear ho0); obtain ⟨Ao8, co8, eo8⟩ := Kd.R_slice HO134.out; subst eo8; have p136 : 0 ≤ (7 : Int) := (by omega); have q136 : 7 < (t132.length : Int) := of_decide_eq_true (by first | (with_reducible assumption) | assumption); obtain ⟨ad136, e136, hx136_0⟩ := Kd.at_int (Kd.R_reads' HO134.out).2.2 7 p136 q136; cases e136; (try simp only [show (7 : Int).toNat = 7 from rfl, Nat.reduceMul, Nat.reduceEqDiff, Go.Addr.add, ↓reduceIte] at hx136_0); have qi136 : (7 < t132.length) = True := eq_true (by omega); (try rw [show ((7 : Int)).toNat = 7 from rfl] at hx136_0); replace p136 := eq_true p136; replace q136 := eq_true q136; have p137 : 0 ≤ (17 : Int) := (by omega); have q137 : 17 < (t132.length : Int) := of_decide_eq_true (by first | (with_reducible assumption) | assumption); obtain ⟨ad137, e137, hx137_0⟩ := Kd.at_int (Kd.R_reads' HO134.out).2.2 17 p137 q137; obtain rfl : ad136 = ad137 := (by injection e137); (try simp only [show (17 : Int).toNat = 17 from rfl, Nat.reduceMul, Nat.reduceEqDiff, Go.Addr.add, ↓reduceIte] at hx137_0); have qi137 : (17 < t132.length) = True := eq_true (by omega); (try rw [show ((17 : Int)).toNat = 17 from rfl] at hx137_0); replace p137 := eq_true p137; replace q137 := eq_true q137))
            go_ret
            exact ⟨by first | rfl | (simp [errW_none, errW_some] <;> rfl) | (simp [*, errW_none, errW_some] <;> rfl), by repeat (first | (with_reducible first | exact HB.out | apply below_alloc | apply pw_below_drewN | apply below_drew1) | exact HB.out | exact Below.refl _ _)⟩
          · rw [if_neg c6] at H
            exact absurd H (by simp)
        · rw [if_neg c5] at H
          have c5b0 : ((rd t132 7) == 1) = false := beq_eq_false_iff_ne.mpr c5
          have c5b1 : ((rd t132 7) != 1) = true := bne_iff_ne.mpr c5
          obtain rfl := Option.some.inj H
          go_enter Try.func9, Try.ntmps9
          go_wp2_with (first | ((with_reducible refine gate_callee (f := 10) rfl ?_); refine goesL_ (some 5) rfl rfl Try.func10 (by kernel_rfl) rfl #[.agg #[.int .i64 1, .int .i64 0], .bool true] rfl (by (try simp only [List.map_toArray, List.map_cons, List.map_nil]); first | done | rfl | (simp only [List.length_drop, List.length_take]; rfl)) ?_; (with_reducible refine (rev_Encode.calls k 1 0 true t132 t135 _ A1.out).mono ?_); rintro e w9 ⟨v133, rfl, ho0, hb⟩; refine ⟨_, rfl, ?_⟩; have n0_ := Aside0.mk (Kd.R_lower ho0 (below_size (by repeat (first | (with_reducible first | exact HB.out | apply below_alloc | apply pw_below_drewN | apply below_drew1) | exact HB.out | exact Below.refl _ _)))); have n1_ := Aside0.mk (below_step (by repeat (first | (with_reducible first | exact HB.out | apply below_alloc | apply pw_below_drewN | apply below_drew1) | exact HB.out | exact Below.refl _ _)) hb); clear HB; have HO134 := n0_; have HB := n1_; clear n0_ n1_; (try clear hb); (try clear hb2); (try clear hk); (try clear hi); (try clear ho0); obtain ⟨Ao10, co10, eo10⟩ := Kd.R_slice HO134.out; subst eo10; have p136 : 0 ≤ (7 : Int) := (by omega); have q136 : 7 < (t132.length : Int) := of_decide_eq_true (by first | (with_reducible assumption) | assumption); obtain ⟨ad136, e136, hx136_0⟩ := Kd.at_int (Kd.R_reads' HO134.out).2.2 7 p136 q136; cases e136; (try simp only [show (7 : Int).toNat = 7 from rfl, Nat.reduceMul, Nat.reduceEqDiff, Go.Addr.add, ↓reduceIte] at hx136_0); have qi136 : (7 < t132.length) = True := eq_true (by omega); (try rw [show ((7 : Int)).toNat = 7 from rfl] at hx136_0); replace p136 := eq_true p136; replace q136 := eq_true q136))
          go_ret
          exact ⟨by first | rfl | (simp [errW_none, errW_some] <;> rfl) | (simp [*, errW_none, errW_some] <;> rfl), by repeat (first | (with_reducible first | exact HB.out | apply below_alloc | apply pw_below_drewN | apply below_drew1) | exact HB.out | exact Below.refl _ _)⟩
      · rw [if_neg c4] at H
        exact absurd H (by simp)
    · rw [if_neg c3] at H
      have c3b0 : ((t132.length : Int) == 18) = false := beq_eq_false_iff_ne.mpr c3
      have c3b1 : ((t132.length : Int) != 18) = true := bne_iff_ne.mpr c3
      obtain rfl := Option.some.inj H
      go_enter Try.func9, Try.ntmps9
      go_wp2_with (first | ((with_reducible refine gate_callee (f := 10) rfl ?_); refine goesL_ (some 5) rfl rfl Try.func10 (by kernel_rfl) rfl #[.agg #[.int .i64 1, .int .i64 0], .bool true] rfl (by (try simp only [List.map_toArray, List.map_cons, List.map_nil]); first | done | rfl | (simp only [List.length_drop, List.length_take]; rfl)) ?_; (with_reducible refine (rev_Encode.calls k 1 0 true t132 t135 _ A1.out).mono ?_); rintro e w11 ⟨v133, rfl, ho0, hb⟩; refine ⟨_, rfl, ?_⟩; have n0_ := Aside0.mk (Kd.R_lower ho0 (below_size (by repeat (first | (with_reducible first | exact HB.out | apply below_alloc | apply pw_below_drewN | apply below_drew1) | exact HB.out | exact Below.refl _ _)))); have n1_ := Aside0.mk (below_step (by repeat (first | (with_reducible first | exact HB.out | apply below_alloc | apply pw_below_drewN | apply below_drew1) | exact HB.out | exact Below.refl _ _)) hb); clear HB; have HO134 := n0_; have HB := n1_; clear n0_ n1_; (try clear hb); (try clear hb2); (try clear hk); (try clear hi); (try clear ho0); obtain ⟨Ao12, co12, eo12⟩ := Kd.R_slice HO134.out; subst eo12))
      go_ret
      exact ⟨by first | rfl | (simp [errW_none, errW_some] <;> rfl) | (simp [*, errW_none, errW_some] <;> rfl), by repeat (first | (with_reducible first | exact HB.out | apply below_alloc | apply pw_below_drewN | apply below_drew1) | exact HB.out | exact Below.refl _ _)⟩
  · rw [if_neg c2] at H
    have c2b0 : (t135 == 0) = false := beq_eq_false_iff_ne.mpr c2
    have c2b1 : (t135 != 0) = true := bne_iff_ne.mpr c2
    obtain rfl := Option.some.inj H
    go_enter Try.func9, Try.ntmps9
    go_wp2_with (first | ((with_reducible refine gate_callee (f := 10) rfl ?_); refine goesL_ (some 5) rfl rfl Try.func10 (by kernel_rfl) rfl #[.agg #[.int .i64 1, .int .i64 0], .bool true] rfl (by (try simp only [List.map_toArray, List.map_cons, List.map_nil]); first | done | rfl | (simp only [List.length_drop, List.length_take]; rfl)) ?_; (with_reducible refine (rev_Encode.calls k 1 0 true t132 t135 _ A1.out).mono ?_); rintro e w13 ⟨v133, rfl, ho0, hb⟩; refine ⟨_, rfl, ?_⟩; have n0_ := Aside0.mk (Kd.R_lower ho0 (below_size (by repeat (first | (with_reducible first | exact HB.out | apply below_alloc | apply pw_below_drewN | apply below_drew1) | exact HB.out | exact Below.refl _ _)))); have n1_ := Aside0.mk (below_step (by repeat (first | (with_reducible first | exact HB.out | apply below_alloc | apply pw_below_drewN | apply below_drew1) | exact HB.out | exact Below.refl _ _)) hb); clear HB; have HO134 := n0_; have HB := n1_; clear n0_ n1_; (try clear hb); (try clear hb2); (try clear hk); (try clear hi); (try clear ho0)))
    go_ret
    exact ⟨by first | rfl | (simp [errW_none, errW_some] <;> rfl) | (simp [*, errW_none, errW_some] <;> rfl), by repeat (first | (with_reducible first | exact HB.out | apply below_alloc | apply pw_below_drewN | apply below_drew1) | exact HB.out | exact Below.refl _ _)⟩

end Go.Proofs.Ytcpapgfglgaogaa.PS
