-- Written by wip/printx.py, a program of this work over the kit's print, for this claim.
import Derived.Test.YtandeendeoempaaPCx0
import Derived.Test.YtandeendeoempaaPCx1
import Derived.Test.YtandeendeoempaaPCx2
import Derived.Test.YtandeendeoempaaPCx3
namespace Go.Proofs.Ytandeendeoempaa.PC
open Go.RowKit Go.Proofs.YtandeendeoempaaW.PrintWords Go.Proofs.YtandeendeoempaaW.PrintLast Go.Proofs.YtandeendeoempaaW.PrintMore
attribute [local go_sem] max2_int min2_int max_two min_two max_three min_three max_four min_four   -- for this text's walks alone
attribute [local go_sem] Ext.pick_u8 Ext.pick_u32 Ext.pick_u64
set_option linter.unusedVariables false
set_option linter.unusedSimpArgs false

@[reducible] def zb14_0 : Array Bool := #[false, false, false, false, false, false, false, false, false, false, false, false, false, false, false, false, false, false, false, false, false, false, false, false, false, false, false]
@[reducible] def zb14_1 : Array Bool := #[true, false, false, false, false, false, false, false, false, false, false, false, false, false, false, false, false, false, false, false, false, false, false, false, false, false, false]
@[reducible] def zb14_2 : Array Bool := #[true, true, false, false, false, false, false, false, false, false, false, false, false, false, false, false, false, false, false, false, false, false, false, false, false, false, false]
@[reducible] def zb14_3 : Array Bool := #[true, true, true, false, false, false, false, false, false, false, false, false, false, false, false, false, false, false, false, false, false, false, false, false, false, false, false]
@[reducible] def zb14_4 : Array Bool := #[true, true, true, true, false, false, false, false, false, false, false, false, false, false, false, false, false, false, false, false, false, false, false, false, false, false, false]
@[reducible] def zb14_5 : Array Bool := #[true, true, true, true, true, false, false, false, false, false, false, false, false, false, false, false, false, false, false, false, false, false, false, false, false, false, false]
@[reducible] def zb14_6 : Array Bool := #[true, true, true, true, true, true, false, false, false, false, false, false, false, false, false, false, false, false, false, false, false, false, false, false, false, false, false]
@[reducible] def zb14_7 : Array Bool := #[true, true, true, true, true, true, true, false, false, false, false, false, false, false, false, false, false, false, false, false, false, false, false, false, false, false, false]
@[reducible] def zb14_8 : Array Bool := #[true, true, true, true, true, true, true, true, false, false, false, false, false, false, false, false, false, false, false, false, false, false, false, false, false, false, false]
@[reducible] def zb14_9 : Array Bool := #[true, true, true, true, true, true, true, true, true, false, false, false, false, false, false, false, false, false, false, false, false, false, false, false, false, false, false]
@[reducible] def zb14_10 : Array Bool := #[true, true, true, true, true, true, true, true, true, true, false, false, false, false, false, false, false, false, false, false, false, false, false, false, false, false, false]
@[reducible] def zb14_11 : Array Bool := #[true, true, true, true, true, true, true, true, true, true, true, false, false, false, false, false, false, false, false, false, false, false, false, false, false, false, false]
@[reducible] def zb14_12 : Array Bool := #[true, true, true, true, true, true, true, true, true, true, true, true, false, false, false, false, false, false, false, false, false, false, false, false, false, false, false]
@[reducible] def zb14_13 : Array Bool := #[true, true, true, true, true, true, true, true, true, true, true, true, true, false, false, false, false, false, false, false, false, false, false, false, false, false, false]
@[reducible] def zb14_14 : Array Bool := #[true, true, true, true, true, true, true, true, true, true, true, true, true, true, false, false, false, false, false, false, false, false, false, false, false, false, false]
@[reducible] def zb14_15 : Array Bool := #[true, true, true, true, true, true, true, true, true, true, true, true, true, true, true, false, false, false, false, false, false, false, false, false, false, false, false]
@[reducible] def zb14_16 : Array Bool := #[true, true, true, true, true, true, true, true, true, true, true, true, true, true, true, true, true, true, true, true, true, true, false, false, false, false, false]
@[reducible] def zb14_17 : Array Bool := #[true, true, true, true, true, true, true, true, true, true, true, true, true, true, true, true, true, true, true, true, true, true, true, false, false, false, false]
@[reducible] def zb14_18 : Array Bool := #[true, true, true, true, true, true, true, true, true, true, true, true, true, true, true, true, true, true, true, true, true, true, true, true, false, false, false]
@[reducible] def zb14_19 : Array Bool := #[true, true, true, true, true, true, true, true, true, true, true, true, true, true, true, true, true, true, true, true, true, true, true, true, true, false, false]
@[reducible] def zb14_20 : Array Bool := #[true, true, true, true, true, true, true, true, true, true, true, true, true, true, true, true, true, true, true, true, true, true, true, true, true, true, false]
@[reducible] def zb14_21 : Array Bool := #[true, true, true, true, true, true, true, true, true, true, true, true, true, true, true, true, true, true, true, true, true, true, true, true, true, true, true]
@[reducible] def zb14_22 : Array Bool := #[true, true, true, true, true, true, true, true, true, true, true, true, true, true, true, true, false, false, false, false, false, false, false, false, false, false, false]
@[reducible] def zb14_23 : Array Bool := #[true, true, true, true, true, true, true, true, true, true, true, true, true, true, true, true, true, false, false, false, false, false, false, false, false, false, false]
@[reducible] def zb14_24 : Array Bool := #[true, true, true, true, true, true, true, true, true, true, true, true, true, true, true, true, true, true, false, false, false, false, false, false, false, false, false]
@[reducible] def zb14_25 : Array Bool := #[true, true, true, true, true, true, true, true, true, true, true, true, true, true, true, true, true, true, true, false, false, false, false, false, false, false, false]
@[reducible] def zb14_26 : Array Bool := #[true, true, true, true, true, true, true, true, true, true, true, true, true, true, true, true, true, true, true, true, false, false, false, false, false, false, false]
@[reducible] def zb14_27 : Array Bool := #[true, true, true, true, true, true, true, true, true, true, true, true, true, true, true, true, true, true, true, true, true, false, false, false, false, false, false]
@[reducible] def zb14_28 : Array Bool := #[false, false, false, false, false, false, false, false, false, false, false, false, false, false, false, false, false, false, false, false]
@[reducible] def zb14_29 : Array Bool := #[true, false, false, false, false, false, false, false, false, false, false, false, false, false, false, false, false, false, false, false]
@[reducible] def zb14_30 : Array Bool := #[true, true, false, false, false, false, false, false, false, false, false, false, false, false, false, false, false, false, false, false]
@[reducible] def zb14_31 : Array Bool := #[true, true, true, false, false, false, false, false, false, false, false, false, false, false, false, false, false, false, false, false]
@[reducible] def zb14_32 : Array Bool := #[true, true, true, true, false, false, false, false, false, false, false, false, false, false, false, false, false, false, false, false]
@[reducible] def zb14_33 : Array Bool := #[true, true, true, true, true, false, false, false, false, false, false, false, false, false, false, false, false, false, false, false]
@[reducible] def zb14_34 : Array Bool := #[true, true, true, true, true, true, false, false, false, false, false, false, false, false, false, false, false, false, false, false]
@[reducible] def zb14_35 : Array Bool := #[true, true, true, true, true, true, true, false, false, false, false, false, false, false, false, false, false, false, false, false]
@[reducible] def zb14_36 : Array Bool := #[true, true, true, true, true, true, true, true, false, false, false, false, false, false, false, false, false, false, false, false]
@[reducible] def zb14_37 : Array Bool := #[true, true, true, true, true, true, true, true, true, true, true, true, true, true, true, false, false, false, false, false]
@[reducible] def zb14_38 : Array Bool := #[true, true, true, true, true, true, true, true, true, true, true, true, true, true, true, true, false, false, false, false]
@[reducible] def zb14_39 : Array Bool := #[true, true, true, true, true, true, true, true, true, true, true, true, true, true, true, true, true, false, false, false]
@[reducible] def zb14_40 : Array Bool := #[true, true, true, true, true, true, true, true, true, true, true, true, true, true, true, true, true, true, false, false]
@[reducible] def zb14_41 : Array Bool := #[true, true, true, true, true, true, true, true, true, true, true, true, true, true, true, true, true, true, true, false]
@[reducible] def zb14_42 : Array Bool := #[true, true, true, true, true, true, true, true, true, true, true, true, true, true, true, true, true, true, true, true]
@[reducible] def zb14_43 : Array Bool := #[true, true, true, true, true, true, true, true, true, false, false, false, false, false, false, false, false, false, false, false]
@[reducible] def zb14_44 : Array Bool := #[true, true, true, true, true, true, true, true, true, true, false, false, false, false, false, false, false, false, false, false]
@[reducible] def zb14_45 : Array Bool := #[true, true, true, true, true, true, true, true, true, true, true, false, false, false, false, false, false, false, false, false]
@[reducible] def zb14_46 : Array Bool := #[true, true, true, true, true, true, true, true, true, true, true, true, false, false, false, false, false, false, false, false]
@[reducible] def zb14_47 : Array Bool := #[true, true, true, true, true, true, true, true, true, true, true, true, true, false, false, false, false, false, false, false]
@[reducible] def zb14_48 : Array Bool := #[true, true, true, true, true, true, true, true, true, true, true, true, true, true, false, false, false, false, false, false]

/-! ### page_Right: function 14 -/
mutual
def page_Right.j0 : Nat → Bool → Int → Int → Int → List (S44) → List (S60) → List Int → List Int → Option (Bool)
 | 0, _, _, _, _, _, _, _, _ => none
 | k + 1, x55, x110000, x110001, x110002, x110003, x110004, x110005, x110006 => if x55 = true then (some false) else (page_Right.l0 k x110003 (x110003.length : Int) 0 x110000 x110001 x110002 x110003 x110004 x110005 x110006)
def page_Right.l0 : Nat → List (S44) → Int → Int → Int → Int → Int → List (S44) → List (S60) → List Int → List Int → Option (Bool)
 | 0, _, _, _, _, _, _, _, _, _, _ => none
 | k + 1, x57, x58, x59, x110000, x110001, x110002, x110003, x110004, x110005, x110006 => if x59 < x58 then (if 0 ≤ x59 then (if x59 < (x57.length : Int) then ((page_item.f k ((rd_T44 x57 x59).f0) ((rd_T44 x57 x59).f1) ((rd_T44 x57 x59).f2) ((rd_T44 x57 x59).f3)).bind fun t114 => (if t114 = true then (if x59 > 0 then (if 0 ≤ (wrap64 (x59 - 1)) then (if (wrap64 (x59 - 1)) < (x110003.length : Int) then ((bytes_Compare.f ((rd_T44 x110003 (wrap64 (x59 - 1))).f0) ((rd_T44 x57 x59).f0)).bind fun t116 => (page_Right.j2 k x57 x58 x59 (decide (t116 ≥ 0)) x110000 x110001 x110002 x110003 x110004 x110005 x110006)) else (none)) else (none)) else (page_Right.j2 k x57 x58 x59 false x110000 x110001 x110002 x110003 x110004 x110005 x110006)) else (page_Right.j2 k x57 x58 x59 true x110000 x110001 x110002 x110003 x110004 x110005 x110006))) else (none)) else (none)) else (page_Right.l1 k x110004 (x110004.length : Int) 0 x110000 x110001 x110002 x110003 x110004 x110005 x110006)
def page_Right.j2 : Nat → List (S44) → Int → Int → Bool → Int → Int → Int → List (S44) → List (S60) → List Int → List Int → Option (Bool)
 | 0, _, _, _, _, _, _, _, _, _, _, _ => none
 | k + 1, x57, x58, x59, x83, x110000, x110001, x110002, x110003, x110004, x110005, x110006 => if x83 = true then (some false) else (page_Right.l0 k x57 x58 (wrap64 (x59 + 1)) x110000 x110001 x110002 x110003 x110004 x110005 x110006)
def page_Right.l1 : Nat → List (S60) → Int → Int → Int → Int → Int → List (S44) → List (S60) → List Int → List Int → Option (Bool)
 | 0, _, _, _, _, _, _, _, _, _, _ => none
 | k + 1, x86, x87, x88, x110000, x110001, x110002, x110003, x110004, x110005, x110006 => if x88 < x87 then (if 0 ≤ x88 then (if x88 < (x86.length : Int) then ((page_key.f ((rd_T60 x86 x88).f0)).bind fun t119 => (if t119 = true then ((page_id.f ((rd_T60 x86 x88).f1)).bind fun t120 => (if t120 = true then (if x88 > 0 then (if 0 ≤ (wrap64 (x88 - 1)) then (if (wrap64 (x88 - 1)) < (x110004.length : Int) then ((bytes_Compare.f ((rd_T60 x110004 (wrap64 (x88 - 1))).f0) ((rd_T60 x86 x88).f0)).bind fun t122 => (page_Right.j4 k x86 x87 x88 (decide (t122 ≥ 0)) x110000 x110001 x110002 x110003 x110004 x110005 x110006)) else (none)) else (none)) else (page_Right.j4 k x86 x87 x88 false x110000 x110001 x110002 x110003 x110004 x110005 x110006)) else (page_Right.j4 k x86 x87 x88 true x110000 x110001 x110002 x110003 x110004 x110005 x110006))) else (page_Right.j4 k x86 x87 x88 true x110000 x110001 x110002 x110003 x110004 x110005 x110006))) else (none)) else (none)) else (page_Right.l2 k x110006 (x110006.length : Int) 0 x110000 x110001 x110002 x110003 x110004 x110005 x110006)
def page_Right.j4 : Nat → List (S60) → Int → Int → Bool → Int → Int → Int → List (S44) → List (S60) → List Int → List Int → Option (Bool)
 | 0, _, _, _, _, _, _, _, _, _, _, _ => none
 | k + 1, x86, x87, x88, x119, x110000, x110001, x110002, x110003, x110004, x110005, x110006 => if x119 = true then (some false) else (page_Right.l1 k x86 x87 (wrap64 (x88 + 1)) x110000 x110001 x110002 x110003 x110004 x110005 x110006)
def page_Right.l2 : Nat → List Int → Int → Int → Int → Int → Int → List (S44) → List (S60) → List Int → List Int → Option (Bool)
 | 0, _, _, _, _, _, _, _, _, _, _ => none
 | k + 1, x122, x123, x124, x110000, x110001, x110002, x110003, x110004, x110005, x110006 => if x124 < x123 then (if 0 ≤ x124 then (if x124 < (x122.length : Int) then ((page_id.f (rd x122 x124)).bind fun t124 => (if t124 = true then (if x124 > 0 then (if 0 ≤ (wrap64 (x124 - 1)) then (if (wrap64 (x124 - 1)) < (x110006.length : Int) then (page_Right.j6 k x122 x123 x124 (decide ((rd x110006 (wrap64 (x124 - 1))) ≥ (rd x122 x124))) x110000 x110001 x110002 x110003 x110004 x110005 x110006) else (none)) else (none)) else (page_Right.j6 k x122 x123 x124 false x110000 x110001 x110002 x110003 x110004 x110005 x110006)) else (page_Right.j6 k x122 x123 x124 true x110000 x110001 x110002 x110003 x110004 x110005 x110006))) else (none)) else (none)) else ((page_Used.f k x110000 x110001 x110002 x110003 x110004 x110005 x110006).bind fun t126 => (some (decide (t126 ≤ 237))))
def page_Right.j6 : Nat → List Int → Int → Int → Bool → Int → Int → Int → List (S44) → List (S60) → List Int → List Int → Option (Bool)
 | 0, _, _, _, _, _, _, _, _, _, _, _ => none
 | k + 1, x122, x123, x124, x145, x110000, x110001, x110002, x110003, x110004, x110005, x110006 => if x145 = true then (some false) else (page_Right.l2 k x122 x123 (wrap64 (x124 + 1)) x110000 x110001 x110002 x110003 x110004 x110005 x110006)
end
def page_Right.f (k : Nat) (a0_0 : Int) (a0_1 : Int) (a0_2 : Int) (l0_3 : List (S44)) (l0_4 : List (S60)) (l0_5 : List Int) (l0_6 : List Int) : Option (Bool) := (page_things.f a0_0 a0_1 a0_2 l0_3 l0_4 l0_5 l0_6).bind fun bt110 => (if bt110.2 = true then (if bt110.1 < 1 then (if a0_0 = 4 then (if bt110.1 > 237 then (page_Right.j0 k true a0_0 a0_1 a0_2 l0_3 l0_4 l0_5 l0_6) else (if a0_2 < 0 then (page_Right.j0 k true a0_0 a0_1 a0_2 l0_3 l0_4 l0_5 l0_6) else (if a0_2 ≥ 1024 then (page_Right.j0 k true a0_0 a0_1 a0_2 l0_3 l0_4 l0_5 l0_6) else (if a0_2 > 0 then (if a0_0 = 1 then (page_Right.j0 k true a0_0 a0_1 a0_2 l0_3 l0_4 l0_5 l0_6) else (page_Right.j0 k (a0_0 == 2) a0_0 a0_1 a0_2 l0_3 l0_4 l0_5 l0_6)) else (page_Right.j0 k false a0_0 a0_1 a0_2 l0_3 l0_4 l0_5 l0_6))))) else (page_Right.j0 k true a0_0 a0_1 a0_2 l0_3 l0_4 l0_5 l0_6)) else (if bt110.1 > 237 then (page_Right.j0 k true a0_0 a0_1 a0_2 l0_3 l0_4 l0_5 l0_6) else (if a0_2 < 0 then (page_Right.j0 k true a0_0 a0_1 a0_2 l0_3 l0_4 l0_5 l0_6) else (if a0_2 ≥ 1024 then (page_Right.j0 k true a0_0 a0_1 a0_2 l0_3 l0_4 l0_5 l0_6) else (if a0_2 > 0 then (if a0_0 = 1 then (page_Right.j0 k true a0_0 a0_1 a0_2 l0_3 l0_4 l0_5 l0_6) else (page_Right.j0 k (a0_0 == 2) a0_0 a0_1 a0_2 l0_3 l0_4 l0_5 l0_6)) else (page_Right.j0 k false a0_0 a0_1 a0_2 l0_3 l0_4 l0_5 l0_6)))))) else (page_Right.j0 k true a0_0 a0_1 a0_2 l0_3 l0_4 l0_5 l0_6))
theorem page_Right.mono_l : ∀ k, (∀ y0 y1 y2 y3 y4 y5 y6 y7, LeO (page_Right.j0 k y0 y1 y2 y3 y4 y5 y6 y7) (page_Right.j0 (k + 1) y0 y1 y2 y3 y4 y5 y6 y7)) ∧ (∀ y0 y1 y2 y3 y4 y5 y6 y7 y8 y9, LeO (page_Right.l0 k y0 y1 y2 y3 y4 y5 y6 y7 y8 y9) (page_Right.l0 (k + 1) y0 y1 y2 y3 y4 y5 y6 y7 y8 y9)) ∧ (∀ y0 y1 y2 y3 y4 y5 y6 y7 y8 y9 y10, LeO (page_Right.j2 k y0 y1 y2 y3 y4 y5 y6 y7 y8 y9 y10) (page_Right.j2 (k + 1) y0 y1 y2 y3 y4 y5 y6 y7 y8 y9 y10)) ∧ (∀ y0 y1 y2 y3 y4 y5 y6 y7 y8 y9, LeO (page_Right.l1 k y0 y1 y2 y3 y4 y5 y6 y7 y8 y9) (page_Right.l1 (k + 1) y0 y1 y2 y3 y4 y5 y6 y7 y8 y9)) ∧ (∀ y0 y1 y2 y3 y4 y5 y6 y7 y8 y9 y10, LeO (page_Right.j4 k y0 y1 y2 y3 y4 y5 y6 y7 y8 y9 y10) (page_Right.j4 (k + 1) y0 y1 y2 y3 y4 y5 y6 y7 y8 y9 y10)) ∧ (∀ y0 y1 y2 y3 y4 y5 y6 y7 y8 y9, LeO (page_Right.l2 k y0 y1 y2 y3 y4 y5 y6 y7 y8 y9) (page_Right.l2 (k + 1) y0 y1 y2 y3 y4 y5 y6 y7 y8 y9)) ∧ (∀ y0 y1 y2 y3 y4 y5 y6 y7 y8 y9 y10, LeO (page_Right.j6 k y0 y1 y2 y3 y4 y5 y6 y7 y8 y9 y10) (page_Right.j6 (k + 1) y0 y1 y2 y3 y4 y5 y6 y7 y8 y9 y10))
 | 0 => ⟨fun _ _ _ _ _ _ _ _ r h => by simp [page_Right.j0] at h, fun _ _ _ _ _ _ _ _ _ _ r h => by simp [page_Right.l0] at h, fun _ _ _ _ _ _ _ _ _ _ _ r h => by simp [page_Right.j2] at h, fun _ _ _ _ _ _ _ _ _ _ r h => by simp [page_Right.l1] at h, fun _ _ _ _ _ _ _ _ _ _ _ r h => by simp [page_Right.j4] at h, fun _ _ _ _ _ _ _ _ _ _ r h => by simp [page_Right.l2] at h, fun _ _ _ _ _ _ _ _ _ _ _ r h => by simp [page_Right.j6] at h⟩
 | k + 1 => by
  obtain ⟨ih0, ih1, ih2, ih3, ih4, ih5, ih6⟩ := page_Right.mono_l k; refine ⟨?_, ?_, ?_, ?_, ?_, ?_, ?_⟩
  ·
   intro y0 y1 y2 y3 y4 y5 y6 y7
   unfold page_Right.j0
   repeat' first
   | (with_reducible exact ih0 _ _ _ _ _ _ _ _)
   | (with_reducible exact ih1 _ _ _ _ _ _ _ _ _ _)
   | (with_reducible exact ih2 _ _ _ _ _ _ _ _ _ _ _)
   | (with_reducible exact ih3 _ _ _ _ _ _ _ _ _ _)
   | (with_reducible exact ih4 _ _ _ _ _ _ _ _ _ _ _)
   | (with_reducible exact ih5 _ _ _ _ _ _ _ _ _ _)
   | (with_reducible exact ih6 _ _ _ _ _ _ _ _ _ _ _)
   | (with_reducible exact page_Used.mono _ _ _ _ _ _ _ _)
   | (with_reducible exact page_item.mono _ _ _ _ _)
   | (with_reducible exact LeO.refl _)
   | (with_reducible exact LeO.none _)
   | (with_reducible refine LeO.ite ?_ ?_)
   | (with_reducible refine LeO.bind ?_ (fun _ => ?_))
   | exact ih0 _ _ _ _ _ _ _ _
   | exact ih1 _ _ _ _ _ _ _ _ _ _
   | exact ih2 _ _ _ _ _ _ _ _ _ _ _
   | exact ih3 _ _ _ _ _ _ _ _ _ _
   | exact ih4 _ _ _ _ _ _ _ _ _ _ _
   | exact ih5 _ _ _ _ _ _ _ _ _ _
   | exact ih6 _ _ _ _ _ _ _ _ _ _ _
   | exact page_Used.mono _ _ _ _ _ _ _ _
   | exact page_item.mono _ _ _ _ _
   | exact LeO.none _
   | refine LeO.ite ?_ ?_
   | refine LeO.bind ?_ (fun _ => ?_)
  ·
   intro y0 y1 y2 y3 y4 y5 y6 y7 y8 y9
   unfold page_Right.l0
   repeat' first
   | (with_reducible exact ih0 _ _ _ _ _ _ _ _)
   | (with_reducible exact ih1 _ _ _ _ _ _ _ _ _ _)
   | (with_reducible exact ih2 _ _ _ _ _ _ _ _ _ _ _)
   | (with_reducible exact ih3 _ _ _ _ _ _ _ _ _ _)
   | (with_reducible exact ih4 _ _ _ _ _ _ _ _ _ _ _)
   | (with_reducible exact ih5 _ _ _ _ _ _ _ _ _ _)
   | (with_reducible exact ih6 _ _ _ _ _ _ _ _ _ _ _)
   | (with_reducible exact page_Used.mono _ _ _ _ _ _ _ _)
   | (with_reducible exact page_item.mono _ _ _ _ _)
   | (with_reducible exact LeO.refl _)
   | (with_reducible exact LeO.none _)
   | (with_reducible refine LeO.ite ?_ ?_)
   | (with_reducible refine LeO.bind ?_ (fun _ => ?_))
   | exact ih0 _ _ _ _ _ _ _ _
   | exact ih1 _ _ _ _ _ _ _ _ _ _
   | exact ih2 _ _ _ _ _ _ _ _ _ _ _
   | exact ih3 _ _ _ _ _ _ _ _ _ _
   | exact ih4 _ _ _ _ _ _ _ _ _ _ _
   | exact ih5 _ _ _ _ _ _ _ _ _ _
   | exact ih6 _ _ _ _ _ _ _ _ _ _ _
   | exact page_Used.mono _ _ _ _ _ _ _ _
   | exact page_item.mono _ _ _ _ _
   | exact LeO.none _
   | refine LeO.ite ?_ ?_
   | refine LeO.bind ?_ (fun _ => ?_)
  ·
   intro y0 y1 y2 y3 y4 y5 y6 y7 y8 y9 y10
   unfold page_Right.j2
   repeat' first
   | (with_reducible exact ih0 _ _ _ _ _ _ _ _)
   | (with_reducible exact ih1 _ _ _ _ _ _ _ _ _ _)
   | (with_reducible exact ih2 _ _ _ _ _ _ _ _ _ _ _)
   | (with_reducible exact ih3 _ _ _ _ _ _ _ _ _ _)
   | (with_reducible exact ih4 _ _ _ _ _ _ _ _ _ _ _)
   | (with_reducible exact ih5 _ _ _ _ _ _ _ _ _ _)
   | (with_reducible exact ih6 _ _ _ _ _ _ _ _ _ _ _)
   | (with_reducible exact page_Used.mono _ _ _ _ _ _ _ _)
   | (with_reducible exact page_item.mono _ _ _ _ _)
   | (with_reducible exact LeO.refl _)
   | (with_reducible exact LeO.none _)
   | (with_reducible refine LeO.ite ?_ ?_)
   | (with_reducible refine LeO.bind ?_ (fun _ => ?_))
   | exact ih0 _ _ _ _ _ _ _ _
   | exact ih1 _ _ _ _ _ _ _ _ _ _
   | exact ih2 _ _ _ _ _ _ _ _ _ _ _
   | exact ih3 _ _ _ _ _ _ _ _ _ _
   | exact ih4 _ _ _ _ _ _ _ _ _ _ _
   | exact ih5 _ _ _ _ _ _ _ _ _ _
   | exact ih6 _ _ _ _ _ _ _ _ _ _ _
   | exact page_Used.mono _ _ _ _ _ _ _ _
   | exact page_item.mono _ _ _ _ _
   | exact LeO.none _
   | refine LeO.ite ?_ ?_
   | refine LeO.bind ?_ (fun _ => ?_)
  ·
   intro y0 y1 y2 y3 y4 y5 y6 y7 y8 y9
   unfold page_Right.l1
   repeat' first
   | (with_reducible exact ih0 _ _ _ _ _ _ _ _)
   | (with_reducible exact ih1 _ _ _ _ _ _ _ _ _ _)
   | (with_reducible exact ih2 _ _ _ _ _ _ _ _ _ _ _)
   | (with_reducible exact ih3 _ _ _ _ _ _ _ _ _ _)
   | (with_reducible exact ih4 _ _ _ _ _ _ _ _ _ _ _)
   | (with_reducible exact ih5 _ _ _ _ _ _ _ _ _ _)
   | (with_reducible exact ih6 _ _ _ _ _ _ _ _ _ _ _)
   | (with_reducible exact page_Used.mono _ _ _ _ _ _ _ _)
   | (with_reducible exact page_item.mono _ _ _ _ _)
   | (with_reducible exact LeO.refl _)
   | (with_reducible exact LeO.none _)
   | (with_reducible refine LeO.ite ?_ ?_)
   | (with_reducible refine LeO.bind ?_ (fun _ => ?_))
   | exact ih0 _ _ _ _ _ _ _ _
   | exact ih1 _ _ _ _ _ _ _ _ _ _
   | exact ih2 _ _ _ _ _ _ _ _ _ _ _
   | exact ih3 _ _ _ _ _ _ _ _ _ _
   | exact ih4 _ _ _ _ _ _ _ _ _ _ _
   | exact ih5 _ _ _ _ _ _ _ _ _ _
   | exact ih6 _ _ _ _ _ _ _ _ _ _ _
   | exact page_Used.mono _ _ _ _ _ _ _ _
   | exact page_item.mono _ _ _ _ _
   | exact LeO.none _
   | refine LeO.ite ?_ ?_
   | refine LeO.bind ?_ (fun _ => ?_)
  ·
   intro y0 y1 y2 y3 y4 y5 y6 y7 y8 y9 y10
   unfold page_Right.j4
   repeat' first
   | (with_reducible exact ih0 _ _ _ _ _ _ _ _)
   | (with_reducible exact ih1 _ _ _ _ _ _ _ _ _ _)
   | (with_reducible exact ih2 _ _ _ _ _ _ _ _ _ _ _)
   | (with_reducible exact ih3 _ _ _ _ _ _ _ _ _ _)
   | (with_reducible exact ih4 _ _ _ _ _ _ _ _ _ _ _)
   | (with_reducible exact ih5 _ _ _ _ _ _ _ _ _ _)
   | (with_reducible exact ih6 _ _ _ _ _ _ _ _ _ _ _)
   | (with_reducible exact page_Used.mono _ _ _ _ _ _ _ _)
   | (with_reducible exact page_item.mono _ _ _ _ _)
   | (with_reducible exact LeO.refl _)
   | (with_reducible exact LeO.none _)
   | (with_reducible refine LeO.ite ?_ ?_)
   | (with_reducible refine LeO.bind ?_ (fun _ => ?_))
   | exact ih0 _ _ _ _ _ _ _ _
   | exact ih1 _ _ _ _ _ _ _ _ _ _
   | exact ih2 _ _ _ _ _ _ _ _ _ _ _
   | exact ih3 _ _ _ _ _ _ _ _ _ _
   | exact ih4 _ _ _ _ _ _ _ _ _ _ _
   | exact ih5 _ _ _ _ _ _ _ _ _ _
   | exact ih6 _ _ _ _ _ _ _ _ _ _ _
   | exact page_Used.mono _ _ _ _ _ _ _ _
   | exact page_item.mono _ _ _ _ _
   | exact LeO.none _
   | refine LeO.ite ?_ ?_
   | refine LeO.bind ?_ (fun _ => ?_)
  ·
   intro y0 y1 y2 y3 y4 y5 y6 y7 y8 y9
   unfold page_Right.l2
   repeat' first
   | (with_reducible exact ih0 _ _ _ _ _ _ _ _)
   | (with_reducible exact ih1 _ _ _ _ _ _ _ _ _ _)
   | (with_reducible exact ih2 _ _ _ _ _ _ _ _ _ _ _)
   | (with_reducible exact ih3 _ _ _ _ _ _ _ _ _ _)
   | (with_reducible exact ih4 _ _ _ _ _ _ _ _ _ _ _)
   | (with_reducible exact ih5 _ _ _ _ _ _ _ _ _ _)
   | (with_reducible exact ih6 _ _ _ _ _ _ _ _ _ _ _)
   | (with_reducible exact page_Used.mono _ _ _ _ _ _ _ _)
   | (with_reducible exact page_item.mono _ _ _ _ _)
   | (with_reducible exact LeO.refl _)
   | (with_reducible exact LeO.none _)
   | (with_reducible refine LeO.ite ?_ ?_)
   | (with_reducible refine LeO.bind ?_ (fun _ => ?_))
   | exact ih0 _ _ _ _ _ _ _ _
   | exact ih1 _ _ _ _ _ _ _ _ _ _
   | exact ih2 _ _ _ _ _ _ _ _ _ _ _
   | exact ih3 _ _ _ _ _ _ _ _ _ _
   | exact ih4 _ _ _ _ _ _ _ _ _ _ _
   | exact ih5 _ _ _ _ _ _ _ _ _ _
   | exact ih6 _ _ _ _ _ _ _ _ _ _ _
   | exact page_Used.mono _ _ _ _ _ _ _ _
   | exact page_item.mono _ _ _ _ _
   | exact LeO.none _
   | refine LeO.ite ?_ ?_
   | refine LeO.bind ?_ (fun _ => ?_)
  ·
   intro y0 y1 y2 y3 y4 y5 y6 y7 y8 y9 y10
   unfold page_Right.j6
   repeat' first
   | (with_reducible exact ih0 _ _ _ _ _ _ _ _)
   | (with_reducible exact ih1 _ _ _ _ _ _ _ _ _ _)
   | (with_reducible exact ih2 _ _ _ _ _ _ _ _ _ _ _)
   | (with_reducible exact ih3 _ _ _ _ _ _ _ _ _ _)
   | (with_reducible exact ih4 _ _ _ _ _ _ _ _ _ _ _)
   | (with_reducible exact ih5 _ _ _ _ _ _ _ _ _ _)
   | (with_reducible exact ih6 _ _ _ _ _ _ _ _ _ _ _)
   | (with_reducible exact page_Used.mono _ _ _ _ _ _ _ _)
   | (with_reducible exact page_item.mono _ _ _ _ _)
   | (with_reducible exact LeO.refl _)
   | (with_reducible exact LeO.none _)
   | (with_reducible refine LeO.ite ?_ ?_)
   | (with_reducible refine LeO.bind ?_ (fun _ => ?_))
   | exact ih0 _ _ _ _ _ _ _ _
   | exact ih1 _ _ _ _ _ _ _ _ _ _
   | exact ih2 _ _ _ _ _ _ _ _ _ _ _
   | exact ih3 _ _ _ _ _ _ _ _ _ _
   | exact ih4 _ _ _ _ _ _ _ _ _ _ _
   | exact ih5 _ _ _ _ _ _ _ _ _ _
   | exact ih6 _ _ _ _ _ _ _ _ _ _ _
   | exact page_Used.mono _ _ _ _ _ _ _ _
   | exact page_item.mono _ _ _ _ _
   | exact LeO.none _
   | refine LeO.ite ?_ ?_
   | refine LeO.bind ?_ (fun _ => ?_)
theorem page_Right.mono : ∀ a0 a1 a2 a3 a4 a5 a6 k, LeO (page_Right.f k a0 a1 a2 a3 a4 a5 a6) (page_Right.f (k + 1) a0 a1 a2 a3 a4 a5 a6) := by
 intro a0 a1 a2 a3 a4 a5 a6 k
 obtain ⟨ih0, ih1, ih2, ih3, ih4, ih5, ih6⟩ := page_Right.mono_l k; unfold page_Right.f
 repeat' first
   | (with_reducible exact ih0 _ _ _ _ _ _ _ _)
   | (with_reducible exact ih1 _ _ _ _ _ _ _ _ _ _)
   | (with_reducible exact ih2 _ _ _ _ _ _ _ _ _ _ _)
   | (with_reducible exact ih3 _ _ _ _ _ _ _ _ _ _)
   | (with_reducible exact ih4 _ _ _ _ _ _ _ _ _ _ _)
   | (with_reducible exact ih5 _ _ _ _ _ _ _ _ _ _)
   | (with_reducible exact ih6 _ _ _ _ _ _ _ _ _ _ _)
   | (with_reducible exact page_Used.mono _ _ _ _ _ _ _ _)
   | (with_reducible exact page_item.mono _ _ _ _ _)
   | (with_reducible exact LeO.refl _)
   | (with_reducible exact LeO.none _)
   | (with_reducible refine LeO.ite ?_ ?_)
   | (with_reducible refine LeO.bind ?_ (fun _ => ?_))
   | exact ih0 _ _ _ _ _ _ _ _
   | exact ih1 _ _ _ _ _ _ _ _ _ _
   | exact ih2 _ _ _ _ _ _ _ _ _ _ _
   | exact ih3 _ _ _ _ _ _ _ _ _ _
   | exact ih4 _ _ _ _ _ _ _ _ _ _ _
   | exact ih5 _ _ _ _ _ _ _ _ _ _
   | exact ih6 _ _ _ _ _ _ _ _ _ _ _
   | exact page_Used.mono _ _ _ _ _ _ _ _
   | exact page_item.mono _ _ _ _ _
   | exact LeO.none _
   | refine LeO.ite ?_ ?_
   | refine LeO.bind ?_ (fun _ => ?_)
def page_Right.T7 : Bool × List (List Nat × List Nat) := (true, [([], []), ([0], [0]), ([1], [1]), ([2, 1], [2]), ([3], [3]), ([4, 3], [3, 4]), ([5, 3, 3], [3, 5]), ([6], [6]), ([7, 6], [6, 7]), ([6], [6]), ([9, 6], [6, 9]), ([8, 10, 6], [6, 8, 10]), ([11, 6], [6, 11]), ([12, 6], [6, 12]), ([6], [6]), ([14, 6], [6, 14]), ([13, 15, 6, 6], [6, 13, 15]), ([16, 6], [6, 16]), ([6, 17, 3], [3, 6, 17]), ([3, 18], [3, 18])])
def page_Right.B7 : List Nat := [0, 1, 3, 7, 15, 31, 63, 127, 255, 127, 639, 2047, 4095, 8191, 127, 16511, 65535, 131071, 262143, 524287]
theorem page_Right.tab7 : rtab .any (opsOf Try.f14 7) = page_Right.T7 := by kernel_rfl
theorem page_Right.bits7 : waitsOk page_Right.T7.2 page_Right.B7 = true := by kernel_rfl
def page_Right.T13 : Bool × List (List Nat × List Nat) := (true, [([], []), ([0], [0]), ([1], [1]), ([2], [2]), ([3, 2], [3]), ([4], [4]), ([5, 4], [4, 5]), ([6, 4, 4], [4, 6]), ([7, 4], [4, 7]), ([4, 8], [4, 8]), ([9, 7], [9]), ([10], [10]), ([11, 10], [10, 11]), ([12, 10, 10], [10, 12]), ([13], [13]), ([14, 13], [13, 14]), ([13], [13]), ([16, 13], [13, 16]), ([15, 17, 13], [13, 15, 17]), ([18, 13], [13, 18]), ([19, 13], [13, 19]), ([13], [13]), ([21, 13], [13, 21]), ([20, 22, 13, 13], [13, 20, 22]), ([23, 13], [13, 23]), ([13, 24, 10], [10, 13, 24]), ([10, 25], [10, 25])])
def page_Right.B13 : List Nat := [0, 1, 3, 7, 15, 31, 63, 127, 255, 511, 1023, 2047, 4095, 8191, 16383, 32767, 16383, 81919, 262143, 524287, 1048575, 16383, 2113535, 8388607, 16777215, 33554431, 67108863]
theorem page_Right.tab13 : rtab .any (opsOf Try.f14 13) = page_Right.T13 := by kernel_rfl
theorem page_Right.bits13 : waitsOk page_Right.T13.2 page_Right.B13 = true := by kernel_rfl
set_option maxHeartbeats 8000000 in
set_option maxRecDepth 100000 in
theorem page_Right.calls (k : Nat) (a0_0 : Int) (a0_1 : Int) (a0_2 : Int) (A0_3 : Option Addr) (c0_3 : Nat) (l0_3 : List (S44)) (A0_4 : Option Addr) (c0_4 : Nat) (l0_4 : List (S60)) (A0_5 : Option Addr) (c0_5 : Nat) (l0_5 : List Int) (A0_6 : Option Addr) (c0_6 : Nat) (l0_6 : List Int) (r : Bool) (w : World) (hr0_3 : Kd.C k44 w A0_3 l0_3.length l0_3) (hc0_3 : l0_3.length ≤ c0_3) (hr0_4 : Kd.C k60 w A0_4 l0_4.length l0_4) (hc0_4 : l0_4.length ≤ c0_4) (hr0_5 : Kd.C (Kd.int .u8) w A0_5 l0_5.length l0_5) (hc0_5 : l0_5.length ≤ c0_5) (hr0_6 : Kd.C (Kd.int .i64) w A0_6 l0_6.length l0_6) (hc0_6 : l0_6.length ≤ c0_6) (h : page_Right.f k a0_0 a0_1 a0_2 l0_3 l0_4 l0_5 l0_6 = some r) :
  Calls Try.prog 14 #[.agg #[.int .i64 a0_0, .int .u64 a0_1, .int .i64 a0_2, .slice A0_3 l0_3.length c0_3, .slice A0_4 l0_4.length c0_4, .slice A0_5 l0_5.length c0_5, .slice A0_6 l0_6.length c0_6]] w fun e w' => e = .returned (.bool r) ∧ Below w.heap.size w w' := by
 have hu28 := Try.underlying28; have hu44 := Try.underlying44; have hu60 := Try.underlying60; have HR0_3 := Aside0.mk hr0_3; have HC0_3 := Aside0.mk hc0_3; clear hr0_3 hc0_3; have HR0_4 := Aside0.mk hr0_4; have HC0_4 := Aside0.mk hc0_4; clear hr0_4 hc0_4; have HR0_5 := Aside0.mk hr0_5; have HC0_5 := Aside0.mk hc0_5; clear hr0_5 hc0_5; have HR0_6 := Aside0.mk hr0_6; have HC0_6 := Aside0.mk hc0_6; clear hr0_6 hc0_6; have HB := Ext.a (Below.refl w.heap.size w); have H := h; unfold page_Right.f at H; clear h; replace H := Option.bind_eq_some_iff.mp H; obtain ⟨⟨t110, t111⟩, A20, H⟩ := H; (try dsimp only at H); have A2 := Aside0.mk A20; clear A20; have HC3 := Aside0.mk H; clear H
 go_enter Try.func14, Try.ntmps14
 go_upto_region 2 with (first | ((with_reducible refine gate_dst (N := 1) rfl ?_); refine box_event ?hg (N := 1) ?hd (cs := #[.int .i64 a0_0, .int .u64 a0_1, .int .i64 a0_2, .slice A0_3 l0_3.length c0_3, .slice A0_4 l0_4.length c0_4, .slice A0_5 l0_5.length c0_5, .slice A0_6 l0_6.length c0_6]) (t := 28) ?hr ?_; (case hd => rfl); (case hg => rfl); (case hr => first | (go_simp; done) | (go_simp; rfl)); intro gb109 hg w4 hbox hb; have BK109 := Ext.a (hbox); have GW109 := Ext.gw hg (below_size (Ext.nB HB.out)); have GE109 := Ext.gw hg (below_size (Ext.nB HB.out)); replace HB := Ext.a (below_step (Ext.nB HB.out) hb); clear hb hbox hg; have hcz5 := Ext.cells7 BK109.out; have hfz5 := Ext.froz7 BK109.out) | ((with_reducible refine gate_dst (N := 12) rfl ?_); (try (refine gate_guard (by rfl) ?_; dsimp only)); refine Ext.struct_load_blk (hgd := ?hg) (t := 28) (x := ?vx_12) (ho := ?ho) (haddr := ?ha) Try.underlying28 rfl (by kernel_rfl) BK109.out ?_; (case ho => rfl); (case hg => rfl); (case ha => rfl)) | ((with_reducible refine gate_callee (f := 24) rfl ?_); refine Ext.gs (some 13) rfl rfl Try.func24 #[.agg #[.int .i64 a0_0, .int .u64 a0_1, .int .i64 a0_2, .slice A0_3 l0_3.length c0_3, .slice A0_4 l0_4.length c0_4, .slice A0_5 l0_5.length c0_5, .slice A0_6 l0_6.length c0_6]] rfl ?_; (with_reducible refine (page_things.calls a0_0 a0_1 a0_2 _ _ l0_3 _ _ l0_4 _ _ l0_5 _ _ l0_6 t110 t111 _ ?side1 ?side2 ?side3 ?side4 ?side5 ?side6 ?side7 ?side8 A2.out).mono ?_); (case side1 => first | exact Ext.kC HR0_3.out HB.out | exact Ext.nC HR0_3.out); (case side2 => exact HC0_3.out); (case side3 => first | exact Ext.kC HR0_4.out HB.out | exact Ext.nC HR0_4.out); (case side4 => exact HC0_4.out); (case side5 => first | exact Ext.kC HR0_5.out HB.out | exact Ext.nC HR0_5.out); (case side6 => exact HC0_5.out); (case side7 => first | exact Ext.kC HR0_6.out HB.out | exact Ext.nC HR0_6.out); (case side8 => exact HC0_6.out); rintro e w6 ⟨rfl, hb⟩; refine ⟨_, rfl, ?_⟩; replace BK109 := Ext.a (blk_below BK109.out hb); replace HB := Ext.a (below_step (Ext.s1 GE109.out HB.out) hb); (try clear hb)))
 (try simp only [Act.put, Ext.sb, Ext.sz, Ext.ss])
 go_cut [55] (fun v55 wc => ∃ (kq : Nat) (x55_2 : Bool), v55 = .bool x55_2 ∧ Aside0 (page_Right.j0 kq x55_2 a0_0 a0_1 a0_2 l0_3 l0_4 l0_5 l0_6 = some r) ∧ Aside0 (kq ≤ k) ∧ Aside0 (wc.heap[gb109]? = some (.cells #[.int .i64 a0_0, .int .u64 a0_1, .int .i64 a0_2, (.slice A0_3 l0_3.length c0_3), (.slice A0_4 l0_4.length c0_4), (.slice A0_5 l0_5.length c0_5), (.slice A0_6 l0_6.length c0_6)] 28 (0, 0))) ∧ Aside0 (Below w.heap.size w wc))
 case first =>
  have H := HC3.out; clear HC3
  by_cases c7 : t111 = true
  ·
   subst c7; rw [if_pos rfl] at H
   by_cases c8 : t110 < 1
   ·
    rw [if_pos c8] at H; have c8b0 := decide_eq_true c8; clear c8
    (first | rw [c8b0] | (simp only [i64_w, i32_w]; rw [c8b0]) | skip)
    by_cases c9 : a0_0 = 4
    ·
     rw [if_pos c9] at H; obtain ⟨c9b0, c9b1⟩ := Ext.eT c9; clear c9
     by_cases c10 : t110 > 237
     ·
      rw [if_pos c10] at H; have c10b0 := decide_eq_true c10; clear c10; have H' := Aside0.mk H; clear H; have hcz11 := Ext.cells7 BK109.out; have hfz11 := Ext.froz7 BK109.out
      go_wp2
      go_meet
      case rel => exact ⟨_, (true), (by first | rfl | (simp; done) | (simp [*]; done)), H', ⟨by first | omega | exact Nat.le_refl _⟩, ⟨by exact BK109.out⟩, ⟨by exact Ext.s1 GE109.out HB.out⟩⟩
     ·
      rw [if_neg c10] at H; have c10b0 := decide_eq_false c10; clear c10
      by_cases c12 : a0_2 < 0
      ·
       rw [if_pos c12] at H; have c12b0 := decide_eq_true c12; clear c12; have H' := Aside0.mk H; clear H; have hcz13 := Ext.cells7 BK109.out; have hfz13 := Ext.froz7 BK109.out
       go_wp2
       go_meet
       case rel => exact ⟨_, (true), (by first | rfl | (simp; done) | (simp [*]; done)), H', ⟨by first | omega | exact Nat.le_refl _⟩, ⟨by exact BK109.out⟩, ⟨by exact Ext.s1 GE109.out HB.out⟩⟩
      ·
       rw [if_neg c12] at H; have c12b0 := decide_eq_false c12; clear c12
       by_cases c14 : a0_2 ≥ 1024
       ·
        rw [if_pos c14] at H; have c14b0 := decide_eq_true c14; clear c14; have H' := Aside0.mk H; clear H; have hcz15 := Ext.cells7 BK109.out; have hfz15 := Ext.froz7 BK109.out
        go_wp2
        go_meet
        case rel => exact ⟨_, (true), (by first | rfl | (simp; done) | (simp [*]; done)), H', ⟨by first | omega | exact Nat.le_refl _⟩, ⟨by exact BK109.out⟩, ⟨by exact Ext.s1 GE109.out HB.out⟩⟩
       ·
        rw [if_neg c14] at H; have c14b0 := decide_eq_false c14; clear c14
        by_cases c16 : a0_2 > 0
        ·
         rw [if_pos c16] at H; have c16b0 := decide_eq_true c16; clear c16
         by_cases c17 : a0_0 = 1
         ·
          rw [if_pos c17] at H; obtain ⟨c17b0, c17b1⟩ := Ext.eT c17; clear c17; have H' := Aside0.mk H; clear H; have hcz18 := Ext.cells7 BK109.out; have hfz18 := Ext.froz7 BK109.out
          go_wp2
          go_meet
          case rel => exact ⟨_, (true), (by first | rfl | (simp; done) | (simp [*]; done)), H', ⟨by first | omega | exact Nat.le_refl _⟩, ⟨by exact BK109.out⟩, ⟨by exact Ext.s1 GE109.out HB.out⟩⟩
         ·
          rw [if_neg c17] at H; obtain ⟨c17b0, c17b1⟩ := Ext.eF c17; have H' := Aside0.mk H; clear H; have hcz19 := Ext.cells7 BK109.out; have hfz19 := Ext.froz7 BK109.out
          go_wp2
          go_meet
          case rel => exact ⟨_, ((a0_0 == 2)), (by first | rfl | (simp; done) | (simp [*]; done)), H', ⟨by first | omega | exact Nat.le_refl _⟩, ⟨by exact BK109.out⟩, ⟨by exact Ext.s1 GE109.out HB.out⟩⟩
        ·
         rw [if_neg c16] at H; have c16b0 := decide_eq_false c16; clear c16; have H' := Aside0.mk H; clear H; have hcz20 := Ext.cells7 BK109.out; have hfz20 := Ext.froz7 BK109.out
         go_wp2
         go_meet
         case rel => exact ⟨_, (false), (by first | rfl | (simp; done) | (simp [*]; done)), H', ⟨by first | omega | exact Nat.le_refl _⟩, ⟨by exact BK109.out⟩, ⟨by exact Ext.s1 GE109.out HB.out⟩⟩
    ·
     rw [if_neg c9] at H; obtain ⟨c9b0, c9b1⟩ := Ext.eF c9; have H' := Aside0.mk H; clear H; have hcz21 := Ext.cells7 BK109.out; have hfz21 := Ext.froz7 BK109.out
     go_wp2
     go_meet
     case rel => exact ⟨_, (true), (by first | rfl | (simp; done) | (simp [*]; done)), H', ⟨by first | omega | exact Nat.le_refl _⟩, ⟨by exact BK109.out⟩, ⟨by exact Ext.s1 GE109.out HB.out⟩⟩
   ·
    rw [if_neg c8] at H; have c8b0 := decide_eq_false c8; clear c8
    (first | rw [c8b0] | (simp only [i64_w, i32_w]; rw [c8b0]) | skip)
    by_cases c22 : t110 > 237
    ·
     rw [if_pos c22] at H; have c22b0 := decide_eq_true c22; clear c22; have H' := Aside0.mk H; clear H
     go_wp2
     go_meet
     case rel => exact ⟨_, (true), (by first | rfl | (simp; done) | (simp [*]; done)), H', ⟨by first | omega | exact Nat.le_refl _⟩, ⟨by exact BK109.out⟩, ⟨by exact Ext.s1 GE109.out HB.out⟩⟩
    ·
     rw [if_neg c22] at H; have c22b0 := decide_eq_false c22; clear c22
     by_cases c23 : a0_2 < 0
     ·
      rw [if_pos c23] at H; have c23b0 := decide_eq_true c23; clear c23; have H' := Aside0.mk H; clear H; have hcz24 := Ext.cells7 BK109.out; have hfz24 := Ext.froz7 BK109.out
      go_wp2
      go_meet
      case rel => exact ⟨_, (true), (by first | rfl | (simp; done) | (simp [*]; done)), H', ⟨by first | omega | exact Nat.le_refl _⟩, ⟨by exact BK109.out⟩, ⟨by exact Ext.s1 GE109.out HB.out⟩⟩
     ·
      rw [if_neg c23] at H; have c23b0 := decide_eq_false c23; clear c23
      by_cases c25 : a0_2 ≥ 1024
      ·
       rw [if_pos c25] at H; have c25b0 := decide_eq_true c25; clear c25; have H' := Aside0.mk H; clear H; have hcz26 := Ext.cells7 BK109.out; have hfz26 := Ext.froz7 BK109.out
       go_wp2
       go_meet
       case rel => exact ⟨_, (true), (by first | rfl | (simp; done) | (simp [*]; done)), H', ⟨by first | omega | exact Nat.le_refl _⟩, ⟨by exact BK109.out⟩, ⟨by exact Ext.s1 GE109.out HB.out⟩⟩
      ·
       rw [if_neg c25] at H; have c25b0 := decide_eq_false c25; clear c25
       by_cases c27 : a0_2 > 0
       ·
        rw [if_pos c27] at H; have c27b0 := decide_eq_true c27; clear c27
        by_cases c28 : a0_0 = 1
        ·
         rw [if_pos c28] at H; obtain ⟨c28b0, c28b1⟩ := Ext.eT c28; clear c28; have H' := Aside0.mk H; clear H; have hcz29 := Ext.cells7 BK109.out; have hfz29 := Ext.froz7 BK109.out
         go_wp2
         go_meet
         case rel => exact ⟨_, (true), (by first | rfl | (simp; done) | (simp [*]; done)), H', ⟨by first | omega | exact Nat.le_refl _⟩, ⟨by exact BK109.out⟩, ⟨by exact Ext.s1 GE109.out HB.out⟩⟩
        ·
         rw [if_neg c28] at H; obtain ⟨c28b0, c28b1⟩ := Ext.eF c28; have H' := Aside0.mk H; clear H; have hcz30 := Ext.cells7 BK109.out; have hfz30 := Ext.froz7 BK109.out
         go_wp2
         go_meet
         case rel => exact ⟨_, ((a0_0 == 2)), (by first | rfl | (simp; done) | (simp [*]; done)), H', ⟨by first | omega | exact Nat.le_refl _⟩, ⟨by exact BK109.out⟩, ⟨by exact Ext.s1 GE109.out HB.out⟩⟩
       ·
        rw [if_neg c27] at H; have c27b0 := decide_eq_false c27; clear c27; have H' := Aside0.mk H; clear H; have hcz31 := Ext.cells7 BK109.out; have hfz31 := Ext.froz7 BK109.out
        go_wp2
        go_meet
        case rel => exact ⟨_, (false), (by first | rfl | (simp; done) | (simp [*]; done)), H', ⟨by first | omega | exact Nat.le_refl _⟩, ⟨by exact BK109.out⟩, ⟨by exact Ext.s1 GE109.out HB.out⟩⟩
  ·
   replace c7 := Bool.eq_false_iff.mpr c7; subst c7; rw [if_neg Bool.false_ne_true] at H; have H' := Aside0.mk H; clear H
   go_wp2
   go_meet
   case rel => exact ⟨_, (true), (by first | rfl | (simp; done) | (simp [*]; done)), H', ⟨by first | omega | exact Nat.le_refl _⟩, ⟨by exact BK109.out⟩, ⟨by exact Ext.s1 GE109.out HB.out⟩⟩
 case rest =>
  clear HC3; (try clear c1 c2 p2 c8b0 c9b0 c9b1 c10b0 c12b0 c14b0 c16b0 c17b0 c17b1 c22b0 c23b0 c24 c25b0 c27b0 c28b0 c28b1 hcz11 hcz13 hcz15 hcz18 hcz19 hcz20 hcz21 hcz24 hcz26 hcz29 hcz30 hcz31 hcz5 hfz11 hfz13 hfz15 hfz18 hfz19 hfz20 hfz21 hfz24 hfz26 hfz29 hfz30 hfz31 hfz5); obtain ⟨kq, x55_2, rfl, HA, HJ2, BK109, HB⟩ := hcut; cases kq with
  | zero => exact absurd HA.out (by simp [page_Right.j0])
  | succ kj2 =>
   have H := HA.out; clear HA; simp only [page_Right.j0] at H
   by_cases c32 : x55_2 = true
   ·
    subst c32; rw [if_pos rfl] at H; obtain rfl := Option.some.inj H
    go_wp2
    go_ret
    exact ⟨by first | rfl | (simp [errW_none, errW_some] <;> rfl) | (simp [*, errW_none, errW_some] <;> rfl), by exact Ext.s1 GE109.out HB.out⟩
   ·
    replace c32 := Bool.eq_false_iff.mpr c32; subst c32; rw [if_neg Bool.false_ne_true] at H; have H' := Aside0.mk H; clear H; have hcz33 := Ext.cells7 BK109.out; have hfz33 := Ext.froz7 BK109.out
    go_wp2
    go_loopg [59] kj2 (fun kq v59 w' => ∃ (x59_2 : Int), v59 = .int .i64 x59_2 ∧ Aside0 (page_Right.l0 kq l0_3 (l0_3.length : Int) x59_2 a0_0 a0_1 a0_2 l0_3 l0_4 l0_5 l0_6 = some r) ∧ Aside0 (kq ≤ kj2) ∧ Aside0 (w'.heap[gb109]? = some (.cells #[.int .i64 a0_0, .int .u64 a0_1, .int .i64 a0_2, (.slice A0_3 l0_3.length c0_3), (.slice A0_4 l0_4.length c0_4), (.slice A0_5 l0_5.length c0_5), (.slice A0_6 l0_6.length c0_6)] 28 (0, 0))) ∧ Aside0 (Below w.heap.size w w'))
    case atStart => exact ⟨(0), (by first | rfl | (simp; done) | (simp [*]; done)), H', ⟨Nat.le_refl _⟩, ⟨by exact BK109.out⟩, ⟨by exact Ext.s1 GE109.out HB.out⟩⟩
    case round =>
     clear H'; (try clear c3 hcz33 hfz33); obtain ⟨x59_2, rfl, HA, HK2, BK109, HB⟩ := hrel; cases gk with
     | zero => exact absurd HA.out (by simp [page_Right.l0])
     | succ k2 =>
      have H := HA.out; clear HA; simp only [page_Right.l0] at H
      by_cases c34 : x59_2 < (l0_3.length : Int)
      ·
       rw [if_pos c34] at H; have c34b0 := decide_eq_true c34; clear c34
       by_cases c35 : 0 ≤ x59_2
       ·
        rw [if_pos c35] at H; have c35b0 := decide_eq_true c35; clear c35
        by_cases c36 : x59_2 < (l0_3.length : Int)
        ·
         rw [if_pos c36] at H; have c36b0 := decide_eq_true c36; clear c36; have HC37 := Aside0.mk H; clear H; have p112 : 0 ≤ (x59_2 : Int) := of_decide_eq_true (by first | (with_reducible assumption) | assumption); have q112 : x59_2 < (l0_3.length : Int) := of_decide_eq_true (by first | (with_reducible assumption) | assumption); obtain ⟨ad112, A112_0, c112_0, A112_1, c112_1, e112, hx112_0, hx112_1, hx112_2, hx112_3, hl112_0, hi112_0, hl112_1, hi112_1⟩ := at_T44 HR0_3.out x59_2 p112 q112; cases e112; replace hx112_0 := (HB.out.cell (World.block_lt_of_cell? w _ hx112_0)).trans hx112_0; replace hx112_1 := (HB.out.cell (World.block_lt_of_cell? w _ hx112_1)).trans hx112_1; replace hx112_2 := (HB.out.cell (World.block_lt_of_cell? w _ hx112_2)).trans hx112_2; replace hx112_3 := (HB.out.cell (World.block_lt_of_cell? w _ hx112_3)).trans hx112_3; have HR112_0 := Aside0.mk hi112_0; have HC112_0 := Aside0.mk hl112_0; clear hi112_0 hl112_0; have HR112_1 := Aside0.mk hi112_1; have HC112_1 := Aside0.mk hl112_1; clear hi112_1 hl112_1; replace p112 := eq_true p112; replace q112 := eq_true q112
         go_upto_region 7 with (first | ((with_reducible refine gate_dst (N := 63) rfl ?_); (try (refine gate_guard (by rfl) ?_; dsimp only)); refine Ext.struct_load (hgd := ?hg) (t := 44) (x := ?vx_63) (ho := ?ho) (cs := [.slice A112_0 ((rd_T44 l0_3 x59_2).f0).length c112_0, .slice A112_1 ((rd_T44 l0_3 x59_2).f1).length c112_1, .int .i64 ((rd_T44 l0_3 x59_2).f2), .int .i64 ((rd_T44 l0_3 x59_2).f3)]) (haddr := ?ha) Try.underlying44 rfl (by kernel_rfl) ⟨hx112_0, hx112_1, hx112_2, hx112_3, trivial⟩ ?_; (case ho => rfl); (case hg => rfl); (case ha => rfl)) | ((with_reducible refine gate_dst (N := 6) rfl ?_); refine Ext.alloc_event (hgd := ?hg) (N := 6) (_hd := ?hd) (t := 44) (ho := ?ho) info44 ?_; (case ho => rfl); (case hd => rfl); (case hg => rfl); intro gb113 hg w38 hbox hb; have BK113 := Ext.a (hbox); have GW113 := Ext.gw hg (below_size (Ext.s1 GE109.out HB.out)); have GE113 := Ext.gw hg (below_size (Ext.s1 GE109.out HB.out)); replace HB := Ext.a (below_step (Ext.s1 GE109.out HB.out) hb); have NB109_113 := Ext.nt hg (blk_lt BK109.out); have NB113_109 := Ext.ng hg (blk_lt BK109.out); replace BK109 := Ext.a (blk_below BK109.out hb); clear hb hbox hg; have hnb39 := NB113_109.out; have hnc39 := NB109_113.out; obtain ⟨hcz40_0, hcz40_1, hcz40_2, hcz40_3⟩ := Ext.cells4 BK113.out; obtain ⟨hfz40_0, hfz40_1, hfz40_2, hfz40_3⟩ := Ext.froz4 BK113.out) | ((with_reducible refine gate_store (t := 44) (p := 6) rfl ?_); refine Ext.struct_store (hgd := ?hg) (hN := ?hn) (t := 44) (p := .tmp 6) (x := ?vo_w41) (ho := ?ho) (cells := #[.slice A112_0 ((rd_T44 l0_3 x59_2).f0).length c112_0, .slice A112_1 ((rd_T44 l0_3 x59_2).f1).length c112_1, .int .i64 ((rd_T44 l0_3 x59_2).f2), .int .i64 ((rd_T44 l0_3 x59_2).f3)]) (haddr := ?ha) (hx := ?hx) BK113.out rfl (by kernel_rfl) rfl ?_; (case ho => rfl); (case hg => rfl); (case hn => rfl); (case ha => rfl); (case hx => first | rfl | (go_simp; done)); intro w41 hx_ hk_ hbl_; replace BK109 := Ext.a (KeepBut.blk hk_ BK109.out NB109_113.out (by simp)); replace BK113 := Ext.a (hx_); replace HB := Ext.a (hbl_ _ _ HB.out GE113.out); clear hx_ hk_ hbl_))
         (try simp only [Act.put, Ext.sb, Ext.sz, Ext.ss])
         go_cut [83] (fun v83 wc => ∃ (kq : Nat) (x83_36 : Bool), v83 = .bool x83_36 ∧ Aside0 (page_Right.j2 kq l0_3 (l0_3.length : Int) x59_2 x83_36 a0_0 a0_1 a0_2 l0_3 l0_4 l0_5 l0_6 = some r) ∧ Aside0 (kq ≤ k2) ∧ Aside0 (wc.heap[gb109]? = some (.cells #[.int .i64 a0_0, .int .u64 a0_1, .int .i64 a0_2, (.slice (some ad112) l0_3.length c0_3), (.slice A0_4 l0_4.length c0_4), (.slice A0_5 l0_5.length c0_5), (.slice A0_6 l0_6.length c0_6)] 28 (0, 0))) ∧ Aside0 (wc.heap[gb113]? = some (.cells #[(.slice A112_0 ((rd_T44 l0_3 x59_2).f0).length c112_0), (.slice A112_1 ((rd_T44 l0_3 x59_2).f1).length c112_1), .int .i64 ((rd_T44 l0_3 x59_2).f2), .int .i64 ((rd_T44 l0_3 x59_2).f3)] 44 (0, 0))) ∧ Aside0 (Below w.heap.size w wc))
         case first =>
          have H := HC37.out; clear HC37; replace H := Option.bind_eq_some_iff.mp H; obtain ⟨t114, A420, H⟩ := H; (try dsimp only at H); have A42 := Aside0.mk A420; clear A420
          by_cases c43 : t114 = true
          ·
           subst c43; rw [if_pos rfl] at H
           by_cases c44 : x59_2 > 0
           ·
            rw [if_pos c44] at H; have c44b0 := decide_eq_true c44; clear c44
            (first | rw [c44b0] | (simp only [i64_w, i32_w]; rw [c44b0]) | skip)
            obtain ⟨ji45, hji45⟩ : ∃ j_ : Int, (wrap64 (x59_2 - 1)) = j_ := ⟨_, rfl⟩
            replace H : (if 0 ≤ (ji45) then (if (ji45) < (l0_3.length : Int) then ((bytes_Compare.f ((rd_T44 l0_3 (ji45)).f0) ((rd_T44 l0_3 x59_2).f0)).bind fun t116 => (page_Right.j2 k2 l0_3 (l0_3.length : Int) x59_2 (decide (t116 ≥ 0)) a0_0 a0_1 a0_2 l0_3 l0_4 l0_5 l0_6)) else (none)) else (none)) = some r := by first | (rw [hji45] at H; exact H) | (simp only [hji45] at H ⊢; exact H)
            (try rw [hji45] at A42); have hji45w : (IntKind.i64.wrap (x59_2 - 1)) = ji45 := (i64_w _).trans hji45
            by_cases c46 : 0 ≤ (ji45)
            ·
             rw [if_pos c46] at H; have c46b0 := decide_eq_true c46; clear c46
             by_cases c47 : (ji45) < (l0_3.length : Int)
             ·
              rw [if_pos c47] at H; have c47b0 := decide_eq_true c47; clear c47; replace H := Option.bind_eq_some_iff.mp H; obtain ⟨t116, A480, H⟩ := H; (try dsimp only at H); have A48 := Aside0.mk A480; clear A480; have H' := Aside0.mk H; clear H
              try go_wp2
              replace BK109 := Ext.a (blk_drew BK109.out); replace BK113 := Ext.a (blk_drew BK113.out); replace HB := Ext.a (below_drew1 HB.out); have p115 : 0 ≤ ((ji45) : Int) := of_decide_eq_true (by first | (with_reducible assumption) | assumption); have q115 : (ji45) < (l0_3.length : Int) := of_decide_eq_true (by first | (with_reducible assumption) | assumption); obtain ⟨ad115, A115_0, c115_0, A115_1, c115_1, e115, hx115_0, hx115_1, hx115_2, hx115_3, hl115_0, hi115_0, hl115_1, hi115_1⟩ := at_T44 HR0_3.out (ji45) p115 q115; have hw115_3 := hx115_3; have hw115_2 := hx115_2; have hw115_1 := hx115_1; have hw115_0 := hx115_0; obtain rfl : ad112 = ad115 := (by injection e115); replace hx115_0 := (HB.out.cell (World.block_lt_of_cell? w _ hx115_0)).trans hx115_0; replace hx115_1 := (HB.out.cell (World.block_lt_of_cell? w _ hx115_1)).trans hx115_1; replace hx115_2 := (HB.out.cell (World.block_lt_of_cell? w _ hx115_2)).trans hx115_2; replace hx115_3 := (HB.out.cell (World.block_lt_of_cell? w _ hx115_3)).trans hx115_3; have HR115_0 := Aside0.mk hi115_0; have HC115_0 := Aside0.mk hl115_0; clear hi115_0 hl115_0; have HR115_1 := Aside0.mk hi115_1; have HC115_1 := Aside0.mk hl115_1; clear hi115_1 hl115_1; replace p115 := eq_true p115; replace q115 := eq_true q115; refine start_ (n := 20) (S := fun w' => w'.cell? ⟨gb113, 0, none⟩ = some (.slice A112_0 ((rd_T44 l0_3 x59_2).f0).length c112_0) ∧ w'.cell? ⟨gb113, 1, none⟩ = some (.slice A112_1 ((rd_T44 l0_3 x59_2).f1).length c112_1) ∧ w'.cell? ⟨gb113, 2, none⟩ = some (.int .i64 ((rd_T44 l0_3 x59_2).f2)) ∧ w'.cell? ⟨gb113, 3, none⟩ = some (.int .i64 ((rd_T44 l0_3 x59_2).f3)) ∧ w'.cell? ⟨gb109, 0, none⟩ = some (.int .i64 a0_0) ∧ w'.cell? ⟨gb109, 1, none⟩ = some (.int .u64 a0_1) ∧ w'.cell? ⟨gb109, 2, none⟩ = some (.int .i64 a0_2) ∧ w'.cell? ⟨gb109, 3, none⟩ = some (.slice (some ad112) l0_3.length c0_3) ∧ w'.cell? ⟨gb109, 4, none⟩ = some (.slice A0_4 l0_4.length c0_4) ∧ w'.cell? ⟨gb109, 5, none⟩ = some (.slice A0_5 l0_5.length c0_5) ∧ w'.cell? ⟨gb109, 6, none⟩ = some (.slice A0_6 l0_6.length c0_6) ∧ w'.cell? (ad112.add (((ji45)).toNat * 4)) = some (.slice A115_0 ((rd_T44 l0_3 (ji45)).f0).length c115_0) ∧ w'.cell? ⟨(ad112.add (((ji45)).toNat * 4)).block, (ad112.add (((ji45)).toNat * 4)).off + 1, none⟩ = some (.slice A115_1 ((rd_T44 l0_3 (ji45)).f1).length c115_1) ∧ w'.cell? ⟨(ad112.add (((ji45)).toNat * 4)).block, (ad112.add (((ji45)).toNat * 4)).off + 2, none⟩ = some (.int .i64 ((rd_T44 l0_3 (ji45)).f2)) ∧ w'.cell? ⟨(ad112.add (((ji45)).toNat * 4)).block, (ad112.add (((ji45)).toNat * 4)).off + 3, none⟩ = some (.int .i64 ((rd_T44 l0_3 (ji45)).f3))) (ds := []) zb14_28 (by kernel_rfl) rfl rfl ⟨(blk_cell BK113.out 0).trans rfl, (blk_cell BK113.out 1).trans rfl, (blk_cell BK113.out 2).trans rfl, (blk_cell BK113.out 3).trans rfl, (blk_cell BK109.out 0).trans rfl, (blk_cell BK109.out 1).trans rfl, (blk_cell BK109.out 2).trans rfl, (blk_cell BK109.out 3).trans rfl, (blk_cell BK109.out 4).trans rfl, (blk_cell BK109.out 5).trans rfl, (blk_cell BK109.out 6).trans rfl, ((HB.out.cell (World.block_lt_of_cell? w _ hw115_0)).trans hw115_0), ((HB.out.cell (World.block_lt_of_cell? w _ hw115_1)).trans hw115_1), ((HB.out.cell (World.block_lt_of_cell? w _ hw115_2)).trans hw115_2), ((HB.out.cell (World.block_lt_of_cell? w _ hw115_3)).trans hw115_3)⟩ (fun hHeld => ?_); refine with_tabW page_Right.tab7 page_Right.bits7 (fun HT_ HW_ => ?_)
              generalize w41.drew = w49 at BK109 BK113 HB HR115_0 HR115_1 hx115_0 hx115_1 hx115_2 hx115_3 hHeld ⊢; refine take_ (i := 0) (N := some 64) (v := ?_) (a' := ?_) zb14_29 rfl rfl (take_ofW HT_.out HW_.out (by kernel_rfl)) (fun _ _ _ h => h) (Or.inl ⟨by rfl, ?_⟩) hHeld ?_ ?_; rotate_left
              · rintro w' ⟨s0, s1, s2, s3, s4, s5, s6, s7, s8, s9, s10, s11, s12, s13, s14⟩; go_simp; with_reducible rfl
              rotate_left
              · simp only [Act.put, Ext.sb, Ext.sz, Ext.ss, i64_w, i32_w]; rfl
              refine one_ (i := 1) (N := some 65) zb14_30 rfl rfl (one_of HT_.out (by kernel_rfl)) (by decide) (fun K hK => ?_); refine goes_ Try.func28 (by kernel_rfl) rfl #[.agg #[.slice A112_0 ((rd_T44 l0_3 x59_2).f0).length c112_0, .slice A112_1 ((rd_T44 l0_3 x59_2).f1).length c112_1, .int .i64 ((rd_T44 l0_3 x59_2).f2), .int .i64 ((rd_T44 l0_3 x59_2).f3)]] (by rfl) rfl rfl (by (try simp only [List.map_toArray, List.map_cons, List.map_nil]); first | done | rfl | (simp only [List.length_drop, List.length_take]; rfl)) ?_
              with_reducible refine (page_item.calls k2 _ _ ((rd_T44 l0_3 x59_2).f0) _ _ ((rd_T44 l0_3 x59_2).f1) ((rd_T44 l0_3 x59_2).f2) ((rd_T44 l0_3 x59_2).f3) true _ ?side1 ?side2 ?side3 ?side4 A42.out).mono ?_
              (case side1 => first | exact Ext.kC HR112_0.out HB.out | exact Ext.nC HR112_0.out)
              (case side2 => exact HC112_0.out)
              (case side3 => first | exact Ext.kC HR112_1.out HB.out | exact Ext.nC HR112_1.out)
              (case side4 => exact HC112_1.out)
              rintro e w50 ⟨rfl, hb⟩; refine ⟨_, rfl, ?_⟩; replace BK109 := Ext.a (blk_below BK109.out hb); replace BK113 := Ext.a (blk_below BK113.out hb); replace HB := Ext.a (below_step (Ext.s2 GE109.out GE113.out HB.out) hb); (try clear hb); refine hK.out _ _ ⟨(blk_cell BK113.out 0).trans rfl, (blk_cell BK113.out 1).trans rfl, (blk_cell BK113.out 2).trans rfl, (blk_cell BK113.out 3).trans rfl, (blk_cell BK109.out 0).trans rfl, (blk_cell BK109.out 1).trans rfl, (blk_cell BK109.out 2).trans rfl, (blk_cell BK109.out 3).trans rfl, (blk_cell BK109.out 4).trans rfl, (blk_cell BK109.out 5).trans rfl, (blk_cell BK109.out 6).trans rfl, ((HB.out.cell (World.block_lt_of_cell? w _ hw115_0)).trans hw115_0), ((HB.out.cell (World.block_lt_of_cell? w _ hw115_1)).trans hw115_1), ((HB.out.cell (World.block_lt_of_cell? w _ hw115_2)).trans hw115_2), ((HB.out.cell (World.block_lt_of_cell? w _ hw115_3)).trans hw115_3)⟩ (fun hHeld => ?_); clear hK K; refine norm_ (a' := ?_) ?_ ?_; rotate_left
              · show Act.put _ (some 65) _ = _; simp only [Act.put, Ext.sb, Ext.sz, Ext.ss, i64_w, i32_w]; rfl
              refine pure_ (i := 2) (N := some 66) (v := ?_) (a' := ?_) zb14_31 rfl rfl (any_of HT_.out (by kernel_rfl)) (fun _ _ _ h => h) (Or.inl ⟨by rfl, ?_⟩) ?_ ?_; rotate_left
              · intro w'; go_simp; with_reducible rfl
              rotate_left
              · simp only [Act.put, Ext.sb, Ext.sz, Ext.ss, i64_w, i32_w]; rfl
              refine pure_ (i := 3) (N := some 67) (v := ?_) (a' := ?_) zb14_32 rfl rfl (any_of HT_.out (by kernel_rfl)) (fun _ _ _ h => h) (Or.inl ⟨by rfl, ?_⟩) ?_ ?_; rotate_left
              · intro w'; go_simp; with_reducible rfl
              rotate_left
              · simp only [Act.put, Ext.sb, Ext.sz, Ext.ss, i64_w, i32_w]; rfl
              refine pure_ (i := 4) (N := some 68) (v := ?_) (a' := ?_) zb14_33 rfl rfl (any_of HT_.out (by kernel_rfl)) (fun _ _ _ h => h) (Or.inl ⟨by rfl, ?_⟩) ?_ ?_; rotate_left
              · intro w'; go_simp; with_reducible rfl
              rotate_left
              · simp only [Act.put, Ext.sb, Ext.sz, Ext.ss, i64_w, i32_w]; rfl
              refine pure_ (i := 5) (N := some 69) (v := ?_) (a' := ?_) zb14_34 rfl rfl (any_of HT_.out (by kernel_rfl)) (fun _ _ _ h => h) (Or.inl ⟨by rfl, ?_⟩) ?_ ?_; rotate_left
              · intro w'; go_simp; with_reducible rfl
              rotate_left
              · simp only [Act.put, Ext.sb, Ext.sz, Ext.ss, i64_w, i32_w]; rfl
              refine pure_ (i := 6) (N := some 70) (v := ?_) (a' := ?_) zb14_35 rfl rfl (any_of HT_.out (by kernel_rfl)) (fun _ _ _ h => h) (Or.inl ⟨by rfl, ?_⟩) ?_ ?_; rotate_left
              · intro w'; go_simp; with_reducible rfl
              rotate_left
              · simp only [Act.put, Ext.sb, Ext.sz, Ext.ss, i64_w, i32_w]; rfl
              refine pure_ (i := 7) (N := some 71) (v := ?_) (a' := ?_) zb14_36 rfl rfl (any_of HT_.out (by kernel_rfl)) (fun _ _ _ h => h) (Or.inl ⟨by rfl, ?_⟩) ?_ ?_; rotate_left
              · intro w'; go_simp; with_reducible rfl
              rotate_left
              · simp only [Act.put, Ext.sb, Ext.sz, Ext.ss, i64_w, i32_w]; rfl
              refine pure_ (i := 9) (N := some 73) (v := ?_) (a' := ?_) #[true, true, true, true, true, true, true, true, false, true, false, false, false, false, false, false, false, false, false, false] rfl rfl (any_of HT_.out (by kernel_rfl)) (fun _ _ _ h => h) (Or.inl ⟨by rfl, ?_⟩) ?_ ?_; rotate_left
              · intro w'; go_simp; with_reducible rfl
              rotate_left
              · simp only [Act.put, Ext.sb, Ext.sz, Ext.ss, i64_w, i32_w]; rfl
              refine pure_ (i := 10) (N := some 74) (v := ?_) (a' := ?_) #[true, true, true, true, true, true, true, true, false, true, true, false, false, false, false, false, false, false, false, false] rfl rfl (any_of HT_.out (by kernel_rfl)) (fun _ _ _ h => h) (Or.inl ⟨by rfl, ?_⟩) ?_ ?_; rotate_left
              · intro w'; go_simp; with_reducible rfl
              rotate_left
              · simp only [Act.put, Ext.sb, Ext.sz, Ext.ss, i64_w, i32_w]; rfl
              refine pure_ (i := 14) (N := some 78) (v := ?_) (a' := ?_) #[true, true, true, true, true, true, true, true, false, true, true, false, false, false, true, false, false, false, false, false] rfl rfl (any_of HT_.out (by kernel_rfl)) (fun _ _ _ h => h) (Or.inl ⟨by rfl, ?_⟩) ?_ ?_; rotate_left
              · intro w'; go_simp; with_reducible rfl
              rotate_left
              · simp only [Act.put, Ext.sb, Ext.sz, Ext.ss, i64_w, i32_w]; rfl
              refine take_ (i := 8) (N := some 72) (v := ?_) (a' := ?_) #[true, true, true, true, true, true, true, true, true, true, true, false, false, false, true, false, false, false, false, false] rfl rfl (take_ofW HT_.out HW_.out (by kernel_rfl)) (fun _ _ _ h => h) (Or.inl ⟨by rfl, ?_⟩) hHeld ?_ ?_; rotate_left
              · rintro w' ⟨s0, s1, s2, s3, s4, s5, s6, s7, s8, s9, s10, s11, s12, s13, s14⟩; go_simp; with_reducible rfl
              rotate_left
              · simp only [Act.put, Ext.sb, Ext.sz, Ext.ss, i64_w, i32_w]; rfl
              refine pure_ (i := 11) (N := some 75) (v := ?_) (a' := ?_) #[true, true, true, true, true, true, true, true, true, true, true, true, false, false, true, false, false, false, false, false] rfl rfl (any_of HT_.out (by kernel_rfl)) (fun _ _ _ h => h) (Or.inl ⟨by rfl, ?_⟩) ?_ ?_; rotate_left
              · intro w'; go_simp; with_reducible rfl
              rotate_left
              · simp only [Act.put, Ext.sb, Ext.sz, Ext.ss, i64_w, i32_w]; rfl
              refine pure_ (i := 12) (N := some 76) (v := ?_) (a' := ?_) #[true, true, true, true, true, true, true, true, true, true, true, true, true, false, true, false, false, false, false, false] rfl rfl (any_of HT_.out (by kernel_rfl)) (fun _ _ _ h => h) (Or.inl ⟨by rfl, ?_⟩) ?_ ?_; rotate_left
              · intro w'; go_simp; with_reducible rfl
              rotate_left
              · simp only [Act.put, Ext.sb, Ext.sz, Ext.ss, i64_w, i32_w]; rfl
              refine take_ (i := 13) (N := some 77) (v := ?_) (a' := ?_) zb14_37 rfl rfl (take_ofW HT_.out HW_.out (by kernel_rfl)) (fun _ _ _ h => h) (Or.inl ⟨by rfl, ?_⟩) hHeld ?_ ?_; rotate_left
              · rintro w' ⟨s0, s1, s2, s3, s4, s5, s6, s7, s8, s9, s10, s11, s12, s13, s14⟩; go_simp; with_reducible rfl
              rotate_left
              · simp only [Act.put, Ext.sb, Ext.sz, Ext.ss, i64_w, i32_w]; rfl
              refine take_ (i := 15) (N := some 79) (v := ?_) (a' := ?_) zb14_38 rfl rfl (take_ofW HT_.out HW_.out (by kernel_rfl)) (fun _ _ _ h => h) (Or.inl ⟨by rfl, ?_⟩) hHeld ?_ ?_; rotate_left
              · rintro w' ⟨s0, s1, s2, s3, s4, s5, s6, s7, s8, s9, s10, s11, s12, s13, s14⟩; go_simp; with_reducible rfl
              rotate_left
              · simp only [Act.put, Ext.sb, Ext.sz, Ext.ss, i64_w, i32_w]; rfl
              refine one_ (i := 16) (N := some 80) zb14_39 rfl rfl (one_of HT_.out (by kernel_rfl)) (by decide) (fun K hK => ?_); refine goes_ Try.func29 (by kernel_rfl) rfl #[.slice A115_0 ((rd_T44 l0_3 (ji45)).f0).length c115_0, .slice A112_0 ((rd_T44 l0_3 x59_2).f0).length c112_0] (by rfl) rfl rfl (by (try simp only [List.map_toArray, List.map_cons, List.map_nil]); first | done | (simp only [hji45]; rfl) | rfl | (simp only [List.length_drop, List.length_take]; rfl)) ?_
              with_reducible refine (bytes_Compare.calls _ _ ((rd_T44 l0_3 (ji45)).f0) _ _ ((rd_T44 l0_3 x59_2).f0) t116 _ ?side1 ?side2 ?side3 ?side4 A48.out).mono ?_
              (case side1 => first | exact Ext.kC HR115_0.out HB.out | exact Ext.nC HR115_0.out)
              (case side2 => exact HC115_0.out)
              (case side3 => first | exact Ext.kC HR112_0.out HB.out | exact Ext.nC HR112_0.out)
              (case side4 => exact HC112_0.out)
              rintro e w' ⟨rfl, ⟨nd, rfl⟩⟩; refine ⟨_, rfl, ?_⟩; refine hK.out _ _ ⟨(blk_cell BK113.out 0).trans rfl, (blk_cell BK113.out 1).trans rfl, (blk_cell BK113.out 2).trans rfl, (blk_cell BK113.out 3).trans rfl, (blk_cell BK109.out 0).trans rfl, (blk_cell BK109.out 1).trans rfl, (blk_cell BK109.out 2).trans rfl, (blk_cell BK109.out 3).trans rfl, (blk_cell BK109.out 4).trans rfl, (blk_cell BK109.out 5).trans rfl, (blk_cell BK109.out 6).trans rfl, ((HB.out.cell (World.block_lt_of_cell? w _ hw115_0)).trans hw115_0), ((HB.out.cell (World.block_lt_of_cell? w _ hw115_1)).trans hw115_1), ((HB.out.cell (World.block_lt_of_cell? w _ hw115_2)).trans hw115_2), ((HB.out.cell (World.block_lt_of_cell? w _ hw115_3)).trans hw115_3)⟩ (fun hHeld => ?_); clear hK K; refine norm_ (a' := ?_) ?_ ?_; rotate_left
              · show Act.put _ (some 80) _ = _; simp only [Act.put, Ext.sb, Ext.sz, Ext.ss, i64_w, i32_w]; rfl
              refine pure_ (i := 17) (N := some 81) (v := ?_) (a' := ?_) zb14_40 rfl rfl (any_of HT_.out (by kernel_rfl)) (fun _ _ _ h => h) (Or.inl ⟨by rfl, ?_⟩) ?_ ?_; rotate_left
              · intro w'; go_simp; with_reducible rfl
              rotate_left
              · simp only [Act.put, Ext.sb, Ext.sz, Ext.ss, i64_w, i32_w]; rfl
              refine pure_ (i := 18) (N := some 82) (v := ?_) (a' := ?_) zb14_41 rfl rfl (any_of HT_.out (by kernel_rfl)) (fun _ _ _ h => h) (Or.inl ⟨by rfl, ?_⟩) ?_ ?_; rotate_left
              · intro w'; go_simp; with_reducible rfl
              rotate_left
              · simp only [Act.put, Ext.sb, Ext.sz, Ext.ss, i64_w, i32_w]; rfl
              refine pure_ (i := 19) (N := some 83) (v := ?_) (a' := ?_) zb14_42 rfl rfl (any_of HT_.out (by kernel_rfl)) (fun _ _ _ h => h) (Or.inl ⟨by rfl, ?_⟩) ?_ ?_; rotate_left
              · intro w'; go_simp; with_reducible rfl
              rotate_left
              · simp only [Act.put, Ext.sb, Ext.sz, Ext.ss, i64_w, i32_w]; rfl
              refine done_ (done_of HT_.out (by kernel_rfl)) ?_
              try go_wp2
              go_meet
              case rel => exact ⟨_, (decide (t116 ≥ 0)), (by first | rfl | (simp; done) | (simp [*]; done)), H', ⟨by have := HJ2.out; have := HK2.out; first | omega | exact Nat.le_refl _⟩, ⟨by (with_reducible repeat (first | refine blk_drewN ?_ _ | refine blk_drew ?_ | refine blk_alloc ?_ _)); exact BK109.out⟩, ⟨by (with_reducible repeat (first | refine blk_drewN ?_ _ | refine blk_drew ?_ | refine blk_alloc ?_ _)); exact BK113.out⟩, ⟨by exact Ext.s2 GE109.out GE113.out HB.out⟩⟩
             · rw [if_neg c47] at H; exact absurd H (by simp)
            · rw [if_neg c46] at H; exact absurd H (by simp)
           ·
            rw [if_neg c44] at H; have c44b0 := decide_eq_false c44; clear c44
            (first | rw [c44b0] | (simp only [i64_w, i32_w]; rw [c44b0]) | skip)
            have H' := Aside0.mk H; clear H
            try go_wp2
            replace BK109 := Ext.a (blk_drew BK109.out); replace BK113 := Ext.a (blk_drew BK113.out); replace HB := Ext.a (below_drew1 HB.out); refine start_ (n := 20) (S := fun w' => w'.cell? ⟨gb113, 0, none⟩ = some (.slice A112_0 ((rd_T44 l0_3 x59_2).f0).length c112_0) ∧ w'.cell? ⟨gb113, 1, none⟩ = some (.slice A112_1 ((rd_T44 l0_3 x59_2).f1).length c112_1) ∧ w'.cell? ⟨gb113, 2, none⟩ = some (.int .i64 ((rd_T44 l0_3 x59_2).f2)) ∧ w'.cell? ⟨gb113, 3, none⟩ = some (.int .i64 ((rd_T44 l0_3 x59_2).f3))) (ds := []) zb14_28 (by kernel_rfl) rfl rfl ⟨(blk_cell BK113.out 0).trans rfl, (blk_cell BK113.out 1).trans rfl, (blk_cell BK113.out 2).trans rfl, (blk_cell BK113.out 3).trans rfl⟩ (fun hHeld => ?_); refine with_tabW page_Right.tab7 page_Right.bits7 (fun HT_ HW_ => ?_); generalize w41.drew = w51 at BK109 BK113 HB hHeld ⊢; refine take_ (i := 0) (N := some 64) (v := ?_) (a' := ?_) zb14_29 rfl rfl (take_ofW HT_.out HW_.out (by kernel_rfl)) (fun _ _ _ h => h) (Or.inl ⟨by rfl, ?_⟩) hHeld ?_ ?_; rotate_left
            · rintro w' ⟨s0, s1, s2, s3⟩; go_simp; with_reducible rfl
            rotate_left
            · simp only [Act.put, Ext.sb, Ext.sz, Ext.ss, i64_w, i32_w]; rfl
            refine one_ (i := 1) (N := some 65) zb14_30 rfl rfl (one_of HT_.out (by kernel_rfl)) (by decide) (fun K hK => ?_); refine goes_ Try.func28 (by kernel_rfl) rfl #[.agg #[.slice A112_0 ((rd_T44 l0_3 x59_2).f0).length c112_0, .slice A112_1 ((rd_T44 l0_3 x59_2).f1).length c112_1, .int .i64 ((rd_T44 l0_3 x59_2).f2), .int .i64 ((rd_T44 l0_3 x59_2).f3)]] (by rfl) rfl rfl (by (try simp only [List.map_toArray, List.map_cons, List.map_nil]); first | done | rfl | (simp only [List.length_drop, List.length_take]; rfl)) ?_
            with_reducible refine (page_item.calls k2 _ _ ((rd_T44 l0_3 x59_2).f0) _ _ ((rd_T44 l0_3 x59_2).f1) ((rd_T44 l0_3 x59_2).f2) ((rd_T44 l0_3 x59_2).f3) true _ ?side1 ?side2 ?side3 ?side4 A42.out).mono ?_
            (case side1 => first | exact Ext.kC HR112_0.out HB.out | exact Ext.nC HR112_0.out)
            (case side2 => exact HC112_0.out)
            (case side3 => first | exact Ext.kC HR112_1.out HB.out | exact Ext.nC HR112_1.out)
            (case side4 => exact HC112_1.out)
            rintro e w52 ⟨rfl, hb⟩; refine ⟨_, rfl, ?_⟩; replace BK109 := Ext.a (blk_below BK109.out hb); replace BK113 := Ext.a (blk_below BK113.out hb); replace HB := Ext.a (below_step (Ext.s2 GE109.out GE113.out HB.out) hb); (try clear hb); refine hK.out _ _ ⟨(blk_cell BK113.out 0).trans rfl, (blk_cell BK113.out 1).trans rfl, (blk_cell BK113.out 2).trans rfl, (blk_cell BK113.out 3).trans rfl⟩ (fun hHeld => ?_); clear hK K; refine norm_ (a' := ?_) ?_ ?_; rotate_left
            · show Act.put _ (some 65) _ = _; simp only [Act.put, Ext.sb, Ext.sz, Ext.ss, i64_w, i32_w]; rfl
            refine pure_ (i := 2) (N := some 66) (v := ?_) (a' := ?_) zb14_31 rfl rfl (any_of HT_.out (by kernel_rfl)) (fun _ _ _ h => h) (Or.inl ⟨by rfl, ?_⟩) ?_ ?_; rotate_left
            · intro w'; go_simp; with_reducible rfl
            rotate_left
            · simp only [Act.put, Ext.sb, Ext.sz, Ext.ss, i64_w, i32_w]; rfl
            refine pure_ (i := 3) (N := some 67) (v := ?_) (a' := ?_) zb14_32 rfl rfl (any_of HT_.out (by kernel_rfl)) (fun _ _ _ h => h) (Or.inl ⟨by rfl, ?_⟩) ?_ ?_; rotate_left
            · intro w'; go_simp; with_reducible rfl
            rotate_left
            · simp only [Act.put, Ext.sb, Ext.sz, Ext.ss, i64_w, i32_w]; rfl
            refine pure_ (i := 4) (N := some 68) (v := ?_) (a' := ?_) zb14_33 rfl rfl (any_of HT_.out (by kernel_rfl)) (fun _ _ _ h => h) (Or.inl ⟨by rfl, ?_⟩) ?_ ?_; rotate_left
            · intro w'; go_simp; with_reducible rfl
            rotate_left
            · simp only [Act.put, Ext.sb, Ext.sz, Ext.ss, i64_w, i32_w]; rfl
            refine pure_ (i := 5) (N := some 69) (v := ?_) (a' := ?_) zb14_34 rfl rfl (any_of HT_.out (by kernel_rfl)) (fun _ _ _ h => h) (Or.inl ⟨by rfl, ?_⟩) ?_ ?_; rotate_left
            · intro w'; go_simp; with_reducible rfl
            rotate_left
            · simp only [Act.put, Ext.sb, Ext.sz, Ext.ss, i64_w, i32_w]; rfl
            refine pure_ (i := 6) (N := some 70) (v := ?_) (a' := ?_) zb14_35 rfl rfl (any_of HT_.out (by kernel_rfl)) (fun _ _ _ h => h) (Or.inl ⟨by rfl, ?_⟩) ?_ ?_; rotate_left
            · intro w'; go_simp; with_reducible rfl
            rotate_left
            · simp only [Act.put, Ext.sb, Ext.sz, Ext.ss, i64_w, i32_w]; rfl
            refine pure_ (i := 7) (N := some 71) (v := undef) (a' := ?_) zb14_36 rfl rfl (any_of HT_.out (by kernel_rfl)) (fun _ _ _ h => h) (Or.inr ⟨by rfl, rfl⟩) ?_ ?_; rotate_left
            · simp only [Act.put, Ext.sb, Ext.sz, Ext.ss, i64_w, i32_w]; rfl
            refine pure_ (i := 8) (N := some 72) (v := undef) (a' := ?_) zb14_43 rfl rfl (any_of HT_.out (by kernel_rfl)) (fun _ _ _ h => h) (Or.inr ⟨by rfl, rfl⟩) ?_ ?_; rotate_left
            · simp only [Act.put, Ext.sb, Ext.sz, Ext.ss, i64_w, i32_w]; rfl
            refine pure_ (i := 9) (N := some 73) (v := undef) (a' := ?_) zb14_44 rfl rfl (any_of HT_.out (by kernel_rfl)) (fun _ _ _ h => h) (Or.inr ⟨by rfl, rfl⟩) ?_ ?_; rotate_left
            · simp only [Act.put, Ext.sb, Ext.sz, Ext.ss, i64_w, i32_w]; rfl
            refine pure_ (i := 10) (N := some 74) (v := undef) (a' := ?_) zb14_45 rfl rfl (any_of HT_.out (by kernel_rfl)) (fun _ _ _ h => h) (Or.inr ⟨by rfl, rfl⟩) ?_ ?_; rotate_left
            · simp only [Act.put, Ext.sb, Ext.sz, Ext.ss, i64_w, i32_w]; rfl
            refine pure_ (i := 11) (N := some 75) (v := undef) (a' := ?_) zb14_46 rfl rfl (any_of HT_.out (by kernel_rfl)) (fun _ _ _ h => h) (Or.inr ⟨by rfl, rfl⟩) ?_ ?_; rotate_left
            · simp only [Act.put, Ext.sb, Ext.sz, Ext.ss, i64_w, i32_w]; rfl
            refine pure_ (i := 12) (N := some 76) (v := undef) (a' := ?_) zb14_47 rfl rfl (any_of HT_.out (by kernel_rfl)) (fun _ _ _ h => h) (Or.inr ⟨by rfl, rfl⟩) ?_ ?_; rotate_left
            · simp only [Act.put, Ext.sb, Ext.sz, Ext.ss, i64_w, i32_w]; rfl
            refine pure_ (i := 13) (N := some 77) (v := undef) (a' := ?_) zb14_48 rfl rfl (any_of HT_.out (by kernel_rfl)) (fun _ _ _ h => h) (Or.inr ⟨by rfl, rfl⟩) ?_ ?_; rotate_left
            · simp only [Act.put, Ext.sb, Ext.sz, Ext.ss, i64_w, i32_w]; rfl
            refine pure_ (i := 14) (N := some 78) (v := undef) (a' := ?_) zb14_37 rfl rfl (any_of HT_.out (by kernel_rfl)) (fun _ _ _ h => h) (Or.inr ⟨by rfl, rfl⟩) ?_ ?_; rotate_left
            · simp only [Act.put, Ext.sb, Ext.sz, Ext.ss, i64_w, i32_w]; rfl
            refine pure_ (i := 15) (N := some 79) (v := undef) (a' := ?_) zb14_38 rfl rfl (any_of HT_.out (by kernel_rfl)) (fun _ _ _ h => h) (Or.inr ⟨by rfl, rfl⟩) ?_ ?_; rotate_left
            · simp only [Act.put, Ext.sb, Ext.sz, Ext.ss, i64_w, i32_w]; rfl
            refine pure_ (i := 16) (N := some 80) (v := undef) (a' := ?_) zb14_39 rfl rfl (any_of HT_.out (by kernel_rfl)) (fun _ _ _ h => h) (Or.inr ⟨by rfl, rfl⟩) ?_ ?_; rotate_left
            · simp only [Act.put, Ext.sb, Ext.sz, Ext.ss, i64_w, i32_w]; rfl
            refine pure_ (i := 17) (N := some 81) (v := undef) (a' := ?_) zb14_40 rfl rfl (any_of HT_.out (by kernel_rfl)) (fun _ _ _ h => h) (Or.inr ⟨by rfl, rfl⟩) ?_ ?_; rotate_left
            · simp only [Act.put, Ext.sb, Ext.sz, Ext.ss, i64_w, i32_w]; rfl
            refine pure_ (i := 18) (N := some 82) (v := ?_) (a' := ?_) zb14_41 rfl rfl (any_of HT_.out (by kernel_rfl)) (fun _ _ _ h => h) (Or.inl ⟨by rfl, ?_⟩) ?_ ?_; rotate_left
            · intro w'; go_simp; with_reducible rfl
            rotate_left
            · simp only [Act.put, Ext.sb, Ext.sz, Ext.ss, i64_w, i32_w]; rfl
            refine pure_ (i := 19) (N := some 83) (v := ?_) (a' := ?_) zb14_42 rfl rfl (any_of HT_.out (by kernel_rfl)) (fun _ _ _ h => h) (Or.inl ⟨by rfl, ?_⟩) ?_ ?_; rotate_left
            · intro w'; go_simp; with_reducible rfl
            rotate_left
            · simp only [Act.put, Ext.sb, Ext.sz, Ext.ss, i64_w, i32_w]; rfl
            refine done_ (done_of HT_.out (by kernel_rfl)) ?_
            try go_wp2
            go_meet
            case rel => exact ⟨_, (false), (by first | rfl | (simp; done) | (simp [*]; done)), H', ⟨by have := HJ2.out; have := HK2.out; first | omega | exact Nat.le_refl _⟩, ⟨by exact BK109.out⟩, ⟨by exact BK113.out⟩, ⟨by exact Ext.s2 GE109.out GE113.out HB.out⟩⟩
          ·
           replace c43 := Bool.eq_false_iff.mpr c43; subst c43; rw [if_neg Bool.false_ne_true] at H; have H' := Aside0.mk H; clear H
           try go_wp2
           replace BK109 := Ext.a (blk_drew BK109.out); replace BK113 := Ext.a (blk_drew BK113.out); replace HB := Ext.a (below_drew1 HB.out); refine start_ (n := 20) (S := fun w' => w'.cell? ⟨gb113, 0, none⟩ = some (.slice A112_0 ((rd_T44 l0_3 x59_2).f0).length c112_0) ∧ w'.cell? ⟨gb113, 1, none⟩ = some (.slice A112_1 ((rd_T44 l0_3 x59_2).f1).length c112_1) ∧ w'.cell? ⟨gb113, 2, none⟩ = some (.int .i64 ((rd_T44 l0_3 x59_2).f2)) ∧ w'.cell? ⟨gb113, 3, none⟩ = some (.int .i64 ((rd_T44 l0_3 x59_2).f3))) (ds := []) zb14_28 (by kernel_rfl) rfl rfl ⟨(blk_cell BK113.out 0).trans rfl, (blk_cell BK113.out 1).trans rfl, (blk_cell BK113.out 2).trans rfl, (blk_cell BK113.out 3).trans rfl⟩ (fun hHeld => ?_); refine with_tabW page_Right.tab7 page_Right.bits7 (fun HT_ HW_ => ?_); generalize w41.drew = w53 at BK109 BK113 HB hHeld ⊢; refine take_ (i := 0) (N := some 64) (v := ?_) (a' := ?_) zb14_29 rfl rfl (take_ofW HT_.out HW_.out (by kernel_rfl)) (fun _ _ _ h => h) (Or.inl ⟨by rfl, ?_⟩) hHeld ?_ ?_; rotate_left
           · rintro w' ⟨s0, s1, s2, s3⟩; go_simp; with_reducible rfl
           rotate_left
           · simp only [Act.put, Ext.sb, Ext.sz, Ext.ss, i64_w, i32_w]; rfl
           refine one_ (i := 1) (N := some 65) zb14_30 rfl rfl (one_of HT_.out (by kernel_rfl)) (by decide) (fun K hK => ?_); refine goes_ Try.func28 (by kernel_rfl) rfl #[.agg #[.slice A112_0 ((rd_T44 l0_3 x59_2).f0).length c112_0, .slice A112_1 ((rd_T44 l0_3 x59_2).f1).length c112_1, .int .i64 ((rd_T44 l0_3 x59_2).f2), .int .i64 ((rd_T44 l0_3 x59_2).f3)]] (by rfl) rfl rfl (by (try simp only [List.map_toArray, List.map_cons, List.map_nil]); first | done | rfl | (simp only [List.length_drop, List.length_take]; rfl)) ?_
           with_reducible refine (page_item.calls k2 _ _ ((rd_T44 l0_3 x59_2).f0) _ _ ((rd_T44 l0_3 x59_2).f1) ((rd_T44 l0_3 x59_2).f2) ((rd_T44 l0_3 x59_2).f3) false _ ?side1 ?side2 ?side3 ?side4 A42.out).mono ?_
           (case side1 => first | exact Ext.kC HR112_0.out HB.out | exact Ext.nC HR112_0.out)
           (case side2 => exact HC112_0.out)
           (case side3 => first | exact Ext.kC HR112_1.out HB.out | exact Ext.nC HR112_1.out)
           (case side4 => exact HC112_1.out)
           rintro e w54 ⟨rfl, hb⟩; refine ⟨_, rfl, ?_⟩; replace BK109 := Ext.a (blk_below BK109.out hb); replace BK113 := Ext.a (blk_below BK113.out hb); replace HB := Ext.a (below_step (Ext.s2 GE109.out GE113.out HB.out) hb); (try clear hb); refine hK.out _ _ ⟨(blk_cell BK113.out 0).trans rfl, (blk_cell BK113.out 1).trans rfl, (blk_cell BK113.out 2).trans rfl, (blk_cell BK113.out 3).trans rfl⟩ (fun hHeld => ?_); clear hK K; refine norm_ (a' := ?_) ?_ ?_; rotate_left
           · show Act.put _ (some 65) _ = _; simp only [Act.put, Ext.sb, Ext.sz, Ext.ss, i64_w, i32_w]; rfl
           refine pure_ (i := 2) (N := some 66) (v := ?_) (a' := ?_) zb14_31 rfl rfl (any_of HT_.out (by kernel_rfl)) (fun _ _ _ h => h) (Or.inl ⟨by rfl, ?_⟩) ?_ ?_; rotate_left
           · intro w'; go_simp; with_reducible rfl
           rotate_left
           · simp only [Act.put, Ext.sb, Ext.sz, Ext.ss, i64_w, i32_w]; rfl
           refine pure_ (i := 3) (N := some 67) (v := ?_) (a' := ?_) zb14_32 rfl rfl (any_of HT_.out (by kernel_rfl)) (fun _ _ _ h => h) (Or.inl ⟨by rfl, ?_⟩) ?_ ?_; rotate_left
           · intro w'; go_simp; with_reducible rfl
           rotate_left
           · simp only [Act.put, Ext.sb, Ext.sz, Ext.ss, i64_w, i32_w]; rfl
           refine pure_ (i := 4) (N := some 68) (v := undef) (a' := ?_) zb14_33 rfl rfl (any_of HT_.out (by kernel_rfl)) (fun _ _ _ h => h) (Or.inr ⟨by rfl, rfl⟩) ?_ ?_; rotate_left
           · simp only [Act.put, Ext.sb, Ext.sz, Ext.ss, i64_w, i32_w]; rfl
           refine pure_ (i := 5) (N := some 69) (v := undef) (a' := ?_) zb14_34 rfl rfl (any_of HT_.out (by kernel_rfl)) (fun _ _ _ h => h) (Or.inr ⟨by rfl, rfl⟩) ?_ ?_; rotate_left
           · simp only [Act.put, Ext.sb, Ext.sz, Ext.ss, i64_w, i32_w]; rfl
           refine pure_ (i := 6) (N := some 70) (v := undef) (a' := ?_) zb14_35 rfl rfl (any_of HT_.out (by kernel_rfl)) (fun _ _ _ h => h) (Or.inr ⟨by rfl, rfl⟩) ?_ ?_; rotate_left
           · simp only [Act.put, Ext.sb, Ext.sz, Ext.ss, i64_w, i32_w]; rfl
           refine pure_ (i := 7) (N := some 71) (v := undef) (a' := ?_) zb14_36 rfl rfl (any_of HT_.out (by kernel_rfl)) (fun _ _ _ h => h) (Or.inr ⟨by rfl, rfl⟩) ?_ ?_; rotate_left
           · simp only [Act.put, Ext.sb, Ext.sz, Ext.ss, i64_w, i32_w]; rfl
           refine pure_ (i := 8) (N := some 72) (v := undef) (a' := ?_) zb14_43 rfl rfl (any_of HT_.out (by kernel_rfl)) (fun _ _ _ h => h) (Or.inr ⟨by rfl, rfl⟩) ?_ ?_; rotate_left
           · simp only [Act.put, Ext.sb, Ext.sz, Ext.ss, i64_w, i32_w]; rfl
           refine pure_ (i := 9) (N := some 73) (v := undef) (a' := ?_) zb14_44 rfl rfl (any_of HT_.out (by kernel_rfl)) (fun _ _ _ h => h) (Or.inr ⟨by rfl, rfl⟩) ?_ ?_; rotate_left
           · simp only [Act.put, Ext.sb, Ext.sz, Ext.ss, i64_w, i32_w]; rfl
           refine pure_ (i := 10) (N := some 74) (v := undef) (a' := ?_) zb14_45 rfl rfl (any_of HT_.out (by kernel_rfl)) (fun _ _ _ h => h) (Or.inr ⟨by rfl, rfl⟩) ?_ ?_; rotate_left
           · simp only [Act.put, Ext.sb, Ext.sz, Ext.ss, i64_w, i32_w]; rfl
           refine pure_ (i := 11) (N := some 75) (v := undef) (a' := ?_) zb14_46 rfl rfl (any_of HT_.out (by kernel_rfl)) (fun _ _ _ h => h) (Or.inr ⟨by rfl, rfl⟩) ?_ ?_; rotate_left
           · simp only [Act.put, Ext.sb, Ext.sz, Ext.ss, i64_w, i32_w]; rfl
           refine pure_ (i := 12) (N := some 76) (v := undef) (a' := ?_) zb14_47 rfl rfl (any_of HT_.out (by kernel_rfl)) (fun _ _ _ h => h) (Or.inr ⟨by rfl, rfl⟩) ?_ ?_; rotate_left
           · simp only [Act.put, Ext.sb, Ext.sz, Ext.ss, i64_w, i32_w]; rfl
           refine pure_ (i := 13) (N := some 77) (v := undef) (a' := ?_) zb14_48 rfl rfl (any_of HT_.out (by kernel_rfl)) (fun _ _ _ h => h) (Or.inr ⟨by rfl, rfl⟩) ?_ ?_; rotate_left
           · simp only [Act.put, Ext.sb, Ext.sz, Ext.ss, i64_w, i32_w]; rfl
           refine pure_ (i := 14) (N := some 78) (v := undef) (a' := ?_) zb14_37 rfl rfl (any_of HT_.out (by kernel_rfl)) (fun _ _ _ h => h) (Or.inr ⟨by rfl, rfl⟩) ?_ ?_; rotate_left
           · simp only [Act.put, Ext.sb, Ext.sz, Ext.ss, i64_w, i32_w]; rfl
           refine pure_ (i := 15) (N := some 79) (v := undef) (a' := ?_) zb14_38 rfl rfl (any_of HT_.out (by kernel_rfl)) (fun _ _ _ h => h) (Or.inr ⟨by rfl, rfl⟩) ?_ ?_; rotate_left
           · simp only [Act.put, Ext.sb, Ext.sz, Ext.ss, i64_w, i32_w]; rfl
           refine pure_ (i := 16) (N := some 80) (v := undef) (a' := ?_) zb14_39 rfl rfl (any_of HT_.out (by kernel_rfl)) (fun _ _ _ h => h) (Or.inr ⟨by rfl, rfl⟩) ?_ ?_; rotate_left
           · simp only [Act.put, Ext.sb, Ext.sz, Ext.ss, i64_w, i32_w]; rfl
           refine pure_ (i := 17) (N := some 81) (v := undef) (a' := ?_) zb14_40 rfl rfl (any_of HT_.out (by kernel_rfl)) (fun _ _ _ h => h) (Or.inr ⟨by rfl, rfl⟩) ?_ ?_; rotate_left
           · simp only [Act.put, Ext.sb, Ext.sz, Ext.ss, i64_w, i32_w]; rfl
           refine pure_ (i := 18) (N := some 82) (v := undef) (a' := ?_) zb14_41 rfl rfl (any_of HT_.out (by kernel_rfl)) (fun _ _ _ h => h) (Or.inr ⟨by rfl, rfl⟩) ?_ ?_; rotate_left
           · simp only [Act.put, Ext.sb, Ext.sz, Ext.ss, i64_w, i32_w]; rfl
           refine pure_ (i := 19) (N := some 83) (v := ?_) (a' := ?_) zb14_42 rfl rfl (any_of HT_.out (by kernel_rfl)) (fun _ _ _ h => h) (Or.inl ⟨by rfl, ?_⟩) ?_ ?_; rotate_left
           · intro w'; go_simp; with_reducible rfl
           rotate_left
           · simp only [Act.put, Ext.sb, Ext.sz, Ext.ss, i64_w, i32_w]; rfl
           refine done_ (done_of HT_.out (by kernel_rfl)) ?_
           try go_wp2
           go_meet
           case rel => exact ⟨_, (true), (by first | rfl | (simp; done) | (simp [*]; done)), H', ⟨by have := HJ2.out; have := HK2.out; first | omega | exact Nat.le_refl _⟩, ⟨by exact BK109.out⟩, ⟨by exact BK113.out⟩, ⟨by exact Ext.s2 GE109.out GE113.out HB.out⟩⟩
         case rest =>
          clear HC37; (try clear p1 q1 hx1 c4 p6 c11 p11 q11 hx11 c29 c39 c44b0 c46b0 c47b0 hcz40_0 hcz40_1 hcz40_2 hcz40_3 hfz40_0 hfz40_1 hfz40_2 hfz40_3 hx112_0 hx112_1 hx112_2 hx112_3 hx115_0 hx115_1 hx115_2 hx115_3 p112 p115 q112 q115); obtain ⟨kq, x83_36, rfl, HA, HJ36, BK109, BK113, HB⟩ := hcut; cases kq with
          | zero => exact absurd HA.out (by simp [page_Right.j2])
          | succ kj36 =>
           have H := HA.out; clear HA; simp only [page_Right.j2] at H
           by_cases c55 : x83_36 = true
           ·
            subst c55; rw [if_pos rfl] at H; obtain rfl := Option.some.inj H
            go_wp2
            go_ret
            exact ⟨by first | rfl | (simp [errW_none, errW_some] <;> rfl) | (simp [*, errW_none, errW_some] <;> rfl), by exact Ext.s2 GE109.out GE113.out HB.out⟩
           ·
            replace c55 := Bool.eq_false_iff.mpr c55; subst c55; rw [if_neg Bool.false_ne_true] at H; have H' := Aside0.mk H; clear H
            go_wp2
            go_roundg kj36
            case measure => have := HJ2.out; have := HK2.out; have := HJ36.out; omega
            case rel => exact ⟨(wrap64 (x59_2 + 1)), (by first | rfl | (simp; done) | (simp [*]; done)), H', ⟨by have := HJ2.out; have := HK2.out; have := HJ36.out; omega⟩, ⟨by exact BK109.out⟩, ⟨by exact Ext.s2 GE109.out GE113.out HB.out⟩⟩
        · rw [if_neg c36] at H; exact absurd H (by simp)
       · rw [if_neg c35] at H; exact absurd H (by simp)
      ·
       rw [if_neg c34] at H; have c34b0 := decide_eq_false c34; clear c34; have H' := Aside0.mk H; clear H; have hcz56 := Ext.cells7 BK109.out; have hfz56 := Ext.froz7 BK109.out
       go_wp2
       go_loopg [88] k2 (fun kq v88 w' => ∃ (x88_3 : Int), v88 = .int .i64 x88_3 ∧ Aside0 (page_Right.l1 kq l0_4 (l0_4.length : Int) x88_3 a0_0 a0_1 a0_2 l0_3 l0_4 l0_5 l0_6 = some r) ∧ Aside0 (kq ≤ k2) ∧ Aside0 (w'.heap[gb109]? = some (.cells #[.int .i64 a0_0, .int .u64 a0_1, .int .i64 a0_2, (.slice A0_3 l0_3.length c0_3), (.slice A0_4 l0_4.length c0_4), (.slice A0_5 l0_5.length c0_5), (.slice A0_6 l0_6.length c0_6)] 28 (0, 0))) ∧ Aside0 (Below w.heap.size w w'))
       case atStart => exact ⟨(0), (by first | rfl | (simp; done) | (simp [*]; done)), H', ⟨Nat.le_refl _⟩, ⟨by exact BK109.out⟩, ⟨by exact Ext.s1 GE109.out HB.out⟩⟩
       case round =>
        clear H'; (try clear c5 c34b0 hcz56 hfz56); obtain ⟨x88_3, rfl, HA, HK3, BK109, HB⟩ := hrel; cases gk with
        | zero => exact absurd HA.out (by simp [page_Right.l1])
        | succ k3 =>
         have H := HA.out; clear HA; simp only [page_Right.l1] at H
         by_cases c57 : x88_3 < (l0_4.length : Int)
         ·
          rw [if_pos c57] at H; have c57b0 := decide_eq_true c57; clear c57
          by_cases c58 : 0 ≤ x88_3
          ·
           rw [if_pos c58] at H; have c58b0 := decide_eq_true c58; clear c58
           by_cases c59 : x88_3 < (l0_4.length : Int)
           ·
            rw [if_pos c59] at H; have c59b0 := decide_eq_true c59; clear c59; have HC60 := Aside0.mk H; clear H; have p117 : 0 ≤ (x88_3 : Int) := of_decide_eq_true (by first | (with_reducible assumption) | assumption); have q117 : x88_3 < (l0_4.length : Int) := of_decide_eq_true (by first | (with_reducible assumption) | assumption); obtain ⟨ad117, A117_0, c117_0, e117, hx117_0, hx117_1, hl117_0, hi117_0⟩ := at_T60 HR0_4.out x88_3 p117 q117; cases e117; replace hx117_0 := (HB.out.cell (World.block_lt_of_cell? w _ hx117_0)).trans hx117_0; replace hx117_1 := (HB.out.cell (World.block_lt_of_cell? w _ hx117_1)).trans hx117_1; have HR117_0 := Aside0.mk hi117_0; have HC117_0 := Aside0.mk hl117_0; clear hi117_0 hl117_0; replace p117 := eq_true p117; replace q117 := eq_true q117
            go_upto_region 13 with (first | ((with_reducible refine gate_dst (N := 92) rfl ?_); (try (refine gate_guard (by rfl) ?_; dsimp only)); refine Ext.struct_load (hgd := ?hg) (t := 60) (x := ?vx_92) (ho := ?ho) (cs := [.slice A117_0 ((rd_T60 l0_4 x88_3).f0).length c117_0, .int .i64 ((rd_T60 l0_4 x88_3).f1)]) (haddr := ?ha) Try.underlying60 rfl (by kernel_rfl) ⟨hx117_0, hx117_1, trivial⟩ ?_; (case ho => rfl); (case hg => rfl); (case ha => rfl)) | ((with_reducible refine gate_dst (N := 8) rfl ?_); refine Ext.alloc_event (hgd := ?hg) (N := 8) (_hd := ?hd) (t := 60) (ho := ?ho) info60 ?_; (case ho => rfl); (case hd => rfl); (case hg => rfl); intro gb118 hg w61 hbox hb; have BK118 := Ext.a (hbox); have GW118 := Ext.gw hg (below_size (Ext.s1 GE109.out HB.out)); have GE118 := Ext.gw hg (below_size (Ext.s1 GE109.out HB.out)); replace HB := Ext.a (below_step (Ext.s1 GE109.out HB.out) hb); have NB109_118 := Ext.nt hg (blk_lt BK109.out); have NB118_109 := Ext.ng hg (blk_lt BK109.out); replace BK109 := Ext.a (blk_below BK109.out hb); clear hb hbox hg; have hnb62 := NB118_109.out; have hnc62 := NB109_118.out; have hcz63_0 : w61.cell? ⟨gb118, 0, none⟩ = some (.slice none 0 0) := (blk_cell BK118.out 0).trans rfl; have hcz63_1 : w61.cell? ⟨gb118, 1, none⟩ = some (.int .i64 0) := (blk_cell BK118.out 1).trans rfl; have hfz63_0 := blk_frozen BK118.out 0; have hfz63_1 := blk_frozen BK118.out 1) | ((with_reducible refine gate_store (t := 60) (p := 8) rfl ?_); refine Ext.struct_store (hgd := ?hg) (hN := ?hn) (t := 60) (p := .tmp 8) (x := ?vo_w64) (ho := ?ho) (cells := #[.slice A117_0 ((rd_T60 l0_4 x88_3).f0).length c117_0, .int .i64 ((rd_T60 l0_4 x88_3).f1)]) (haddr := ?ha) (hx := ?hx) BK118.out rfl (by kernel_rfl) rfl ?_; (case ho => rfl); (case hg => rfl); (case hn => rfl); (case ha => rfl); (case hx => first | rfl | (go_simp; done)); intro w64 hx_ hk_ hbl_; replace BK109 := Ext.a (KeepBut.blk hk_ BK109.out NB109_118.out (by simp)); replace BK118 := Ext.a (hx_); replace HB := Ext.a (hbl_ _ _ HB.out GE118.out); clear hx_ hk_ hbl_))
            (try simp only [Act.put, Ext.sb, Ext.sz, Ext.ss])
            go_cut [119] (fun v119 wc => ∃ (kq : Nat) (x119_59 : Bool), v119 = .bool x119_59 ∧ Aside0 (page_Right.j4 kq l0_4 (l0_4.length : Int) x88_3 x119_59 a0_0 a0_1 a0_2 l0_3 l0_4 l0_5 l0_6 = some r) ∧ Aside0 (kq ≤ k3) ∧ Aside0 (wc.heap[gb109]? = some (.cells #[.int .i64 a0_0, .int .u64 a0_1, .int .i64 a0_2, (.slice A0_3 l0_3.length c0_3), (.slice (some ad117) l0_4.length c0_4), (.slice A0_5 l0_5.length c0_5), (.slice A0_6 l0_6.length c0_6)] 28 (0, 0))) ∧ Aside0 (wc.heap[gb118]? = some (.cells #[(.slice A117_0 ((rd_T60 l0_4 x88_3).f0).length c117_0), .int .i64 ((rd_T60 l0_4 x88_3).f1)] 60 (0, 0))) ∧ Aside0 (Below w.heap.size w wc))
            case first =>
             have H := HC60.out; clear HC60; replace H := Option.bind_eq_some_iff.mp H; obtain ⟨t119, A650, H⟩ := H; (try dsimp only at H); have A65 := Aside0.mk A650; clear A650
             by_cases c66 : t119 = true
             ·
              subst c66; rw [if_pos rfl] at H; replace H := Option.bind_eq_some_iff.mp H; obtain ⟨t120, A670, H⟩ := H; (try dsimp only at H); have A67 := Aside0.mk A670; clear A670
              by_cases c68 : t120 = true
              ·
               subst c68; rw [if_pos rfl] at H
               by_cases c69 : x88_3 > 0
               ·
                rw [if_pos c69] at H; have c69b0 := decide_eq_true c69; clear c69
                (first | rw [c69b0] | (simp only [i64_w, i32_w]; rw [c69b0]) | skip)
                obtain ⟨ji70, hji70⟩ : ∃ j_ : Int, (wrap64 (x88_3 - 1)) = j_ := ⟨_, rfl⟩
                replace H : (if 0 ≤ (ji70) then (if (ji70) < (l0_4.length : Int) then ((bytes_Compare.f ((rd_T60 l0_4 (ji70)).f0) ((rd_T60 l0_4 x88_3).f0)).bind fun t122 => (page_Right.j4 k3 l0_4 (l0_4.length : Int) x88_3 (decide (t122 ≥ 0)) a0_0 a0_1 a0_2 l0_3 l0_4 l0_5 l0_6)) else (none)) else (none)) = some r := by first | (rw [hji70] at H; exact H) | (simp only [hji70] at H ⊢; exact H)
                (try rw [hji70] at A65); (try rw [hji70] at A67); have hji70w : (IntKind.i64.wrap (x88_3 - 1)) = ji70 := (i64_w _).trans hji70
                by_cases c71 : 0 ≤ (ji70)
                ·
                 rw [if_pos c71] at H; have c71b0 := decide_eq_true c71; clear c71
                 by_cases c72 : (ji70) < (l0_4.length : Int)
                 ·
                  rw [if_pos c72] at H; have c72b0 := decide_eq_true c72; clear c72; replace H := Option.bind_eq_some_iff.mp H; obtain ⟨t122, A730, H⟩ := H; (try dsimp only at H); have A73 := Aside0.mk A730; clear A730; have H' := Aside0.mk H; clear H
                  try go_wp2
                  replace BK109 := Ext.a (blk_drew BK109.out); replace BK118 := Ext.a (blk_drew BK118.out); replace HB := Ext.a (below_drew1 HB.out); have p121 : 0 ≤ ((ji70) : Int) := of_decide_eq_true (by first | (with_reducible assumption) | assumption); have q121 : (ji70) < (l0_4.length : Int) := of_decide_eq_true (by first | (with_reducible assumption) | assumption); obtain ⟨ad121, A121_0, c121_0, e121, hx121_0, hx121_1, hl121_0, hi121_0⟩ := at_T60 HR0_4.out (ji70) p121 q121; have hw121_1 := hx121_1; have hw121_0 := hx121_0; obtain rfl : ad117 = ad121 := (by injection e121); replace hx121_0 := (HB.out.cell (World.block_lt_of_cell? w _ hx121_0)).trans hx121_0; replace hx121_1 := (HB.out.cell (World.block_lt_of_cell? w _ hx121_1)).trans hx121_1; have HR121_0 := Aside0.mk hi121_0; have HC121_0 := Aside0.mk hl121_0; clear hi121_0 hl121_0; replace p121 := eq_true p121; replace q121 := eq_true q121; refine start_ (n := 27) (S := fun w' => w'.cell? ⟨gb118, 0, none⟩ = some (.slice A117_0 ((rd_T60 l0_4 x88_3).f0).length c117_0) ∧ w'.cell? ⟨gb118, 1, none⟩ = some (.int .i64 ((rd_T60 l0_4 x88_3).f1)) ∧ w'.cell? ⟨gb109, 0, none⟩ = some (.int .i64 a0_0) ∧ w'.cell? ⟨gb109, 1, none⟩ = some (.int .u64 a0_1) ∧ w'.cell? ⟨gb109, 2, none⟩ = some (.int .i64 a0_2) ∧ w'.cell? ⟨gb109, 3, none⟩ = some (.slice A0_3 l0_3.length c0_3) ∧ w'.cell? ⟨gb109, 4, none⟩ = some (.slice (some ad117) l0_4.length c0_4) ∧ w'.cell? ⟨gb109, 5, none⟩ = some (.slice A0_5 l0_5.length c0_5) ∧ w'.cell? ⟨gb109, 6, none⟩ = some (.slice A0_6 l0_6.length c0_6) ∧ w'.cell? (ad117.add (((ji70)).toNat * 2)) = some (.slice A121_0 ((rd_T60 l0_4 (ji70)).f0).length c121_0) ∧ w'.cell? ⟨(ad117.add (((ji70)).toNat * 2)).block, (ad117.add (((ji70)).toNat * 2)).off + 1, none⟩ = some (.int .i64 ((rd_T60 l0_4 (ji70)).f1))) (ds := []) zb14_0 (by kernel_rfl) rfl rfl ⟨(blk_cell BK118.out 0).trans rfl, (blk_cell BK118.out 1).trans rfl, (blk_cell BK109.out 0).trans rfl, (blk_cell BK109.out 1).trans rfl, (blk_cell BK109.out 2).trans rfl, (blk_cell BK109.out 3).trans rfl, (blk_cell BK109.out 4).trans rfl, (blk_cell BK109.out 5).trans rfl, (blk_cell BK109.out 6).trans rfl, ((HB.out.cell (World.block_lt_of_cell? w _ hw121_0)).trans hw121_0), ((HB.out.cell (World.block_lt_of_cell? w _ hw121_1)).trans hw121_1)⟩ (fun hHeld => ?_); refine with_tabW page_Right.tab13 page_Right.bits13 (fun HT_ HW_ => ?_)
                  generalize w64.drew = w74 at BK109 BK118 HB HR121_0 hx121_0 hx121_1 hHeld ⊢; refine pure_ (i := 0) (N := some 93) (v := ?_) (a' := ?_) zb14_1 rfl rfl (any_of HT_.out (by kernel_rfl)) (fun _ _ _ h => h) (Or.inl ⟨by rfl, ?_⟩) ?_ ?_; rotate_left
                  · intro w'; go_simp; with_reducible rfl
                  rotate_left
                  · simp only [Act.put, Ext.sb, Ext.sz, Ext.ss, i64_w, i32_w]; rfl
                  refine take_ (i := 1) (N := some 94) (v := ?_) (a' := ?_) zb14_2 rfl rfl (take_ofW HT_.out HW_.out (by kernel_rfl)) (fun _ _ _ h => h) (Or.inl ⟨by rfl, ?_⟩) hHeld ?_ ?_; rotate_left
                  · rintro w' ⟨s0, s1, s2, s3, s4, s5, s6, s7, s8, s9, s10⟩; go_simp; with_reducible rfl
                  rotate_left
                  · simp only [Act.put, Ext.sb, Ext.sz, Ext.ss, i64_w, i32_w]; rfl
                  refine one_ (i := 2) (N := some 95) zb14_3 rfl rfl (one_of HT_.out (by kernel_rfl)) (by decide) (fun K hK => ?_); refine goes_ Try.func30 (by kernel_rfl) rfl #[.slice A117_0 ((rd_T60 l0_4 x88_3).f0).length c117_0] (by rfl) rfl rfl (by (try simp only [List.map_toArray, List.map_cons, List.map_nil]); first | done | rfl | (simp only [List.length_drop, List.length_take]; rfl)) ?_
                  with_reducible refine (page_key.calls _ _ ((rd_T60 l0_4 x88_3).f0) true _ ?side1 ?side2 A65.out).mono ?_
                  (case side1 => first | exact Ext.kC HR117_0.out HB.out | exact Ext.nC HR117_0.out)
                  (case side2 => exact HC117_0.out)
                  rintro e w' ⟨rfl, ⟨nd, rfl⟩⟩; refine ⟨_, rfl, ?_⟩; refine hK.out _ _ ⟨(blk_cell BK118.out 0).trans rfl, (blk_cell BK118.out 1).trans rfl, (blk_cell BK109.out 0).trans rfl, (blk_cell BK109.out 1).trans rfl, (blk_cell BK109.out 2).trans rfl, (blk_cell BK109.out 3).trans rfl, (blk_cell BK109.out 4).trans rfl, (blk_cell BK109.out 5).trans rfl, (blk_cell BK109.out 6).trans rfl, ((HB.out.cell (World.block_lt_of_cell? w _ hw121_0)).trans hw121_0), ((HB.out.cell (World.block_lt_of_cell? w _ hw121_1)).trans hw121_1)⟩ (fun hHeld => ?_); clear hK K; refine norm_ (a' := ?_) ?_ ?_; rotate_left
                  · show Act.put _ (some 95) _ = _; simp only [Act.put, Ext.sb, Ext.sz, Ext.ss, i64_w, i32_w]; rfl
                  refine pure_ (i := 3) (N := some 96) (v := ?_) (a' := ?_) zb14_4 rfl rfl (any_of HT_.out (by kernel_rfl)) (fun _ _ _ h => h) (Or.inl ⟨by rfl, ?_⟩) ?_ ?_; rotate_left
                  · intro w'; go_simp; with_reducible rfl
                  rotate_left
                  · simp only [Act.put, Ext.sb, Ext.sz, Ext.ss, i64_w, i32_w]; rfl
                  refine pure_ (i := 4) (N := some 97) (v := ?_) (a' := ?_) zb14_5 rfl rfl (any_of HT_.out (by kernel_rfl)) (fun _ _ _ h => h) (Or.inl ⟨by rfl, ?_⟩) ?_ ?_; rotate_left
                  · intro w'; go_simp; with_reducible rfl
                  rotate_left
                  · simp only [Act.put, Ext.sb, Ext.sz, Ext.ss, i64_w, i32_w]; rfl
                  refine pure_ (i := 5) (N := some 98) (v := ?_) (a' := ?_) zb14_6 rfl rfl (any_of HT_.out (by kernel_rfl)) (fun _ _ _ h => h) (Or.inl ⟨by rfl, ?_⟩) ?_ ?_; rotate_left
                  · intro w'; go_simp; with_reducible rfl
                  rotate_left
                  · simp only [Act.put, Ext.sb, Ext.sz, Ext.ss, i64_w, i32_w]; rfl
                  refine take_ (i := 6) (N := some 99) (v := ?_) (a' := ?_) zb14_7 rfl rfl (take_ofW HT_.out HW_.out (by kernel_rfl)) (fun _ _ _ h => h) (Or.inl ⟨by rfl, ?_⟩) hHeld ?_ ?_; rotate_left
                  · rintro w' ⟨s0, s1, s2, s3, s4, s5, s6, s7, s8, s9, s10⟩; go_simp; with_reducible rfl
                  rotate_left
                  · simp only [Act.put, Ext.sb, Ext.sz, Ext.ss, i64_w, i32_w]; rfl
                  refine one_ (i := 7) (N := some 100) zb14_8 rfl rfl (one_of HT_.out (by kernel_rfl)) (by decide) (fun K hK => ?_); refine goes_ Try.func31 (by kernel_rfl) rfl #[.int .i64 ((rd_T60 l0_4 x88_3).f1)] (by rfl) rfl rfl (by (try simp only [List.map_toArray, List.map_cons, List.map_nil]); first | done | rfl | (simp only [List.length_drop, List.length_take]; rfl)) ?_
                  with_reducible refine (page_id.calls ((rd_T60 l0_4 x88_3).f1) true _ A67.out).mono ?_
                  rintro e w' ⟨rfl, ⟨nd, rfl⟩⟩; refine ⟨_, rfl, ?_⟩; refine hK.out _ _ ⟨(blk_cell BK118.out 0).trans rfl, (blk_cell BK118.out 1).trans rfl, (blk_cell BK109.out 0).trans rfl, (blk_cell BK109.out 1).trans rfl, (blk_cell BK109.out 2).trans rfl, (blk_cell BK109.out 3).trans rfl, (blk_cell BK109.out 4).trans rfl, (blk_cell BK109.out 5).trans rfl, (blk_cell BK109.out 6).trans rfl, ((HB.out.cell (World.block_lt_of_cell? w _ hw121_0)).trans hw121_0), ((HB.out.cell (World.block_lt_of_cell? w _ hw121_1)).trans hw121_1)⟩ (fun hHeld => ?_); clear hK K; refine norm_ (a' := ?_) ?_ ?_; rotate_left
                  · show Act.put _ (some 100) _ = _; simp only [Act.put, Ext.sb, Ext.sz, Ext.ss, i64_w, i32_w]; rfl
                  refine pure_ (i := 8) (N := some 101) (v := ?_) (a' := ?_) zb14_9 rfl rfl (any_of HT_.out (by kernel_rfl)) (fun _ _ _ h => h) (Or.inl ⟨by rfl, ?_⟩) ?_ ?_; rotate_left
                  · intro w'; go_simp; with_reducible rfl
                  rotate_left
                  · simp only [Act.put, Ext.sb, Ext.sz, Ext.ss, i64_w, i32_w]; rfl
                  refine pure_ (i := 9) (N := some 102) (v := ?_) (a' := ?_) zb14_10 rfl rfl (any_of HT_.out (by kernel_rfl)) (fun _ _ _ h => h) (Or.inl ⟨by rfl, ?_⟩) ?_ ?_; rotate_left
                  · intro w'; go_simp; with_reducible rfl
                  rotate_left
                  · simp only [Act.put, Ext.sb, Ext.sz, Ext.ss, i64_w, i32_w]; rfl
                  refine pure_ (i := 10) (N := some 103) (v := ?_) (a' := ?_) zb14_11 rfl rfl (any_of HT_.out (by kernel_rfl)) (fun _ _ _ h => h) (Or.inl ⟨by rfl, ?_⟩) ?_ ?_; rotate_left
                  · intro w'; go_simp; with_reducible rfl
                  rotate_left
                  · simp only [Act.put, Ext.sb, Ext.sz, Ext.ss, i64_w, i32_w]; rfl
                  refine pure_ (i := 11) (N := some 104) (v := ?_) (a' := ?_) zb14_12 rfl rfl (any_of HT_.out (by kernel_rfl)) (fun _ _ _ h => h) (Or.inl ⟨by rfl, ?_⟩) ?_ ?_; rotate_left
                  · intro w'; go_simp; with_reducible rfl
                  rotate_left
                  · simp only [Act.put, Ext.sb, Ext.sz, Ext.ss, i64_w, i32_w]; rfl
                  refine pure_ (i := 12) (N := some 105) (v := ?_) (a' := ?_) zb14_13 rfl rfl (any_of HT_.out (by kernel_rfl)) (fun _ _ _ h => h) (Or.inl ⟨by rfl, ?_⟩) ?_ ?_; rotate_left
                  · intro w'; go_simp; with_reducible rfl
                  rotate_left
                  · simp only [Act.put, Ext.sb, Ext.sz, Ext.ss, i64_w, i32_w]; rfl
                  refine pure_ (i := 13) (N := some 106) (v := ?_) (a' := ?_) zb14_14 rfl rfl (any_of HT_.out (by kernel_rfl)) (fun _ _ _ h => h) (Or.inl ⟨by rfl, ?_⟩) ?_ ?_; rotate_left
                  · intro w'; go_simp; with_reducible rfl
                  rotate_left
                  · simp only [Act.put, Ext.sb, Ext.sz, Ext.ss, i64_w, i32_w]; rfl
                  refine pure_ (i := 14) (N := some 107) (v := ?_) (a' := ?_) zb14_15 rfl rfl (any_of HT_.out (by kernel_rfl)) (fun _ _ _ h => h) (Or.inl ⟨by rfl, ?_⟩) ?_ ?_; rotate_left
                  · intro w'; go_simp; with_reducible rfl
                  rotate_left
                  · simp only [Act.put, Ext.sb, Ext.sz, Ext.ss, i64_w, i32_w]; rfl
                  refine pure_ (i := 16) (N := some 109) (v := ?_) (a' := ?_) #[true, true, true, true, true, true, true, true, true, true, true, true, true, true, true, false, true, false, false, false, false, false, false, false, false, false, false] rfl rfl (any_of HT_.out (by kernel_rfl)) (fun _ _ _ h => h) (Or.inl ⟨by rfl, ?_⟩) ?_ ?_; rotate_left
                  · intro w'; go_simp; with_reducible rfl
                  rotate_left
                  · simp only [Act.put, Ext.sb, Ext.sz, Ext.ss, i64_w, i32_w]; rfl
                  refine pure_ (i := 17) (N := some 110) (v := ?_) (a' := ?_) #[true, true, true, true, true, true, true, true, true, true, true, true, true, true, true, false, true, true, false, false, false, false, false, false, false, false, false] rfl rfl (any_of HT_.out (by kernel_rfl)) (fun _ _ _ h => h) (Or.inl ⟨by rfl, ?_⟩) ?_ ?_; rotate_left
                  · intro w'; go_simp; with_reducible rfl
                  rotate_left
                  · simp only [Act.put, Ext.sb, Ext.sz, Ext.ss, i64_w, i32_w]; rfl
                  refine pure_ (i := 21) (N := some 114) (v := ?_) (a' := ?_) #[true, true, true, true, true, true, true, true, true, true, true, true, true, true, true, false, true, true, false, false, false, true, false, false, false, false, false] rfl rfl (any_of HT_.out (by kernel_rfl)) (fun _ _ _ h => h) (Or.inl ⟨by rfl, ?_⟩) ?_ ?_; rotate_left
                  · intro w'; go_simp; with_reducible rfl
                  rotate_left
                  · simp only [Act.put, Ext.sb, Ext.sz, Ext.ss, i64_w, i32_w]; rfl
                  refine take_ (i := 15) (N := some 108) (v := ?_) (a' := ?_) #[true, true, true, true, true, true, true, true, true, true, true, true, true, true, true, true, true, true, false, false, false, true, false, false, false, false, false] rfl rfl (take_ofW HT_.out HW_.out (by kernel_rfl)) (fun _ _ _ h => h) (Or.inl ⟨by rfl, ?_⟩) hHeld ?_ ?_; rotate_left
                  · rintro w' ⟨s0, s1, s2, s3, s4, s5, s6, s7, s8, s9, s10⟩; go_simp; with_reducible rfl
                  rotate_left
                  · simp only [Act.put, Ext.sb, Ext.sz, Ext.ss, i64_w, i32_w]; rfl
                  refine pure_ (i := 18) (N := some 111) (v := ?_) (a' := ?_) #[true, true, true, true, true, true, true, true, true, true, true, true, true, true, true, true, true, true, true, false, false, true, false, false, false, false, false] rfl rfl (any_of HT_.out (by kernel_rfl)) (fun _ _ _ h => h) (Or.inl ⟨by rfl, ?_⟩) ?_ ?_; rotate_left
                  · intro w'; go_simp; with_reducible rfl
                  rotate_left
                  · simp only [Act.put, Ext.sb, Ext.sz, Ext.ss, i64_w, i32_w]; rfl
                  refine pure_ (i := 19) (N := some 112) (v := ?_) (a' := ?_) #[true, true, true, true, true, true, true, true, true, true, true, true, true, true, true, true, true, true, true, true, false, true, false, false, false, false, false] rfl rfl (any_of HT_.out (by kernel_rfl)) (fun _ _ _ h => h) (Or.inl ⟨by rfl, ?_⟩) ?_ ?_; rotate_left
                  · intro w'; go_simp; with_reducible rfl
                  rotate_left
                  · simp only [Act.put, Ext.sb, Ext.sz, Ext.ss, i64_w, i32_w]; rfl
                  refine take_ (i := 20) (N := some 113) (v := ?_) (a' := ?_) zb14_16 rfl rfl (take_ofW HT_.out HW_.out (by kernel_rfl)) (fun _ _ _ h => h) (Or.inl ⟨by rfl, ?_⟩) hHeld ?_ ?_; rotate_left
                  · rintro w' ⟨s0, s1, s2, s3, s4, s5, s6, s7, s8, s9, s10⟩; go_simp; with_reducible rfl
                  rotate_left
                  · simp only [Act.put, Ext.sb, Ext.sz, Ext.ss, i64_w, i32_w]; rfl
                  refine take_ (i := 22) (N := some 115) (v := ?_) (a' := ?_) zb14_17 rfl rfl (take_ofW HT_.out HW_.out (by kernel_rfl)) (fun _ _ _ h => h) (Or.inl ⟨by rfl, ?_⟩) hHeld ?_ ?_; rotate_left
                  · rintro w' ⟨s0, s1, s2, s3, s4, s5, s6, s7, s8, s9, s10⟩; go_simp; with_reducible rfl
                  rotate_left
                  · simp only [Act.put, Ext.sb, Ext.sz, Ext.ss, i64_w, i32_w]; rfl
                  refine one_ (i := 23) (N := some 116) zb14_18 rfl rfl (one_of HT_.out (by kernel_rfl)) (by decide) (fun K hK => ?_); refine goes_ Try.func29 (by kernel_rfl) rfl #[.slice A121_0 ((rd_T60 l0_4 (ji70)).f0).length c121_0, .slice A117_0 ((rd_T60 l0_4 x88_3).f0).length c117_0] (by rfl) rfl rfl (by (try simp only [List.map_toArray, List.map_cons, List.map_nil]); first | done | (simp only [hji70]; rfl) | rfl | (simp only [List.length_drop, List.length_take]; rfl)) ?_
                  with_reducible refine (bytes_Compare.calls _ _ ((rd_T60 l0_4 (ji70)).f0) _ _ ((rd_T60 l0_4 x88_3).f0) t122 _ ?side1 ?side2 ?side3 ?side4 A73.out).mono ?_
                  (case side1 => repeat (first | exact (Kd.C_below HR121_0.out (Ext.s2 GE109.out GE118.out HB.out)) | exact HR121_0.out | (with_reducible refine Kd.C_alloc ?_ _) | (with_reducible refine Kd.C_drewN ?_ _) | (with_reducible refine Kd.C_drew ?_)))
                  (case side2 => exact HC121_0.out)
                  (case side3 => repeat (first | exact (Kd.C_below HR117_0.out (Ext.s2 GE109.out GE118.out HB.out)) | exact HR117_0.out | (with_reducible refine Kd.C_alloc ?_ _) | (with_reducible refine Kd.C_drewN ?_ _) | (with_reducible refine Kd.C_drew ?_)))
                  (case side4 => exact HC117_0.out)
                  rintro e w' ⟨rfl, ⟨nd, rfl⟩⟩; refine ⟨_, rfl, ?_⟩; refine hK.out _ _ ⟨(blk_cell BK118.out 0).trans rfl, (blk_cell BK118.out 1).trans rfl, (blk_cell BK109.out 0).trans rfl, (blk_cell BK109.out 1).trans rfl, (blk_cell BK109.out 2).trans rfl, (blk_cell BK109.out 3).trans rfl, (blk_cell BK109.out 4).trans rfl, (blk_cell BK109.out 5).trans rfl, (blk_cell BK109.out 6).trans rfl, ((HB.out.cell (World.block_lt_of_cell? w _ hw121_0)).trans hw121_0), ((HB.out.cell (World.block_lt_of_cell? w _ hw121_1)).trans hw121_1)⟩ (fun hHeld => ?_); clear hK K; refine norm_ (a' := ?_) ?_ ?_; rotate_left
                  · show Act.put _ (some 116) _ = _; simp only [Act.put, Ext.sb, Ext.sz, Ext.ss, i64_w, i32_w]; rfl
                  refine pure_ (i := 24) (N := some 117) (v := ?_) (a' := ?_) zb14_19 rfl rfl (any_of HT_.out (by kernel_rfl)) (fun _ _ _ h => h) (Or.inl ⟨by rfl, ?_⟩) ?_ ?_; rotate_left
                  · intro w'; go_simp; with_reducible rfl
                  rotate_left
                  · simp only [Act.put, Ext.sb, Ext.sz, Ext.ss, i64_w, i32_w]; rfl
                  refine pure_ (i := 25) (N := some 118) (v := ?_) (a' := ?_) zb14_20 rfl rfl (any_of HT_.out (by kernel_rfl)) (fun _ _ _ h => h) (Or.inl ⟨by rfl, ?_⟩) ?_ ?_; rotate_left
                  · intro w'; go_simp; with_reducible rfl
                  rotate_left
                  · simp only [Act.put, Ext.sb, Ext.sz, Ext.ss, i64_w, i32_w]; rfl
                  refine pure_ (i := 26) (N := some 119) (v := ?_) (a' := ?_) zb14_21 rfl rfl (any_of HT_.out (by kernel_rfl)) (fun _ _ _ h => h) (Or.inl ⟨by rfl, ?_⟩) ?_ ?_; rotate_left
                  · intro w'; go_simp; with_reducible rfl
                  rotate_left
                  · simp only [Act.put, Ext.sb, Ext.sz, Ext.ss, i64_w, i32_w]; rfl
                  refine done_ (done_of HT_.out (by kernel_rfl)) ?_
                  try go_wp2
                  go_meet
                  case rel => exact ⟨_, (decide (t122 ≥ 0)), (by first | rfl | (simp; done) | (simp [*]; done)), H', ⟨by have := HJ2.out; have := HK2.out; have := HK3.out; first | omega | exact Nat.le_refl _⟩, ⟨by (with_reducible repeat (first | refine blk_drewN ?_ _ | refine blk_drew ?_ | refine blk_alloc ?_ _)); exact BK109.out⟩, ⟨by (with_reducible repeat (first | refine blk_drewN ?_ _ | refine blk_drew ?_ | refine blk_alloc ?_ _)); exact BK118.out⟩, ⟨by exact Ext.s2 GE109.out GE118.out HB.out⟩⟩
                 · rw [if_neg c72] at H; exact absurd H (by simp)
                · rw [if_neg c71] at H; exact absurd H (by simp)
               ·
                rw [if_neg c69] at H; have c69b0 := decide_eq_false c69; clear c69
                (first | rw [c69b0] | (simp only [i64_w, i32_w]; rw [c69b0]) | skip)
                have H' := Aside0.mk H; clear H
                try go_wp2
                replace BK109 := Ext.a (blk_drew BK109.out); replace BK118 := Ext.a (blk_drew BK118.out); replace HB := Ext.a (below_drew1 HB.out); refine start_ (n := 27) (S := fun w' => w'.cell? ⟨gb118, 0, none⟩ = some (.slice A117_0 ((rd_T60 l0_4 x88_3).f0).length c117_0) ∧ w'.cell? ⟨gb118, 1, none⟩ = some (.int .i64 ((rd_T60 l0_4 x88_3).f1))) (ds := []) zb14_0 (by kernel_rfl) rfl rfl ⟨(blk_cell BK118.out 0).trans rfl, (blk_cell BK118.out 1).trans rfl⟩ (fun hHeld => ?_); refine with_tabW page_Right.tab13 page_Right.bits13 (fun HT_ HW_ => ?_); generalize w64.drew = w75 at BK109 BK118 HB hHeld ⊢; refine pure_ (i := 0) (N := some 93) (v := ?_) (a' := ?_) zb14_1 rfl rfl (any_of HT_.out (by kernel_rfl)) (fun _ _ _ h => h) (Or.inl ⟨by rfl, ?_⟩) ?_ ?_; rotate_left
                · intro w'; go_simp; with_reducible rfl
                rotate_left
                · simp only [Act.put, Ext.sb, Ext.sz, Ext.ss, i64_w, i32_w]; rfl
                refine take_ (i := 1) (N := some 94) (v := ?_) (a' := ?_) zb14_2 rfl rfl (take_ofW HT_.out HW_.out (by kernel_rfl)) (fun _ _ _ h => h) (Or.inl ⟨by rfl, ?_⟩) hHeld ?_ ?_; rotate_left
                · rintro w' ⟨s0, s1⟩; go_simp; with_reducible rfl
                rotate_left
                · simp only [Act.put, Ext.sb, Ext.sz, Ext.ss, i64_w, i32_w]; rfl
                refine one_ (i := 2) (N := some 95) zb14_3 rfl rfl (one_of HT_.out (by kernel_rfl)) (by decide) (fun K hK => ?_); refine goes_ Try.func30 (by kernel_rfl) rfl #[.slice A117_0 ((rd_T60 l0_4 x88_3).f0).length c117_0] (by rfl) rfl rfl (by (try simp only [List.map_toArray, List.map_cons, List.map_nil]); first | done | rfl | (simp only [List.length_drop, List.length_take]; rfl)) ?_
                with_reducible refine (page_key.calls _ _ ((rd_T60 l0_4 x88_3).f0) true _ ?side1 ?side2 A65.out).mono ?_
                (case side1 => first | exact Ext.kC HR117_0.out HB.out | exact Ext.nC HR117_0.out)
                (case side2 => exact HC117_0.out)
                rintro e w' ⟨rfl, ⟨nd, rfl⟩⟩; refine ⟨_, rfl, ?_⟩; refine hK.out _ _ ⟨(blk_cell BK118.out 0).trans rfl, (blk_cell BK118.out 1).trans rfl⟩ (fun hHeld => ?_); clear hK K; refine norm_ (a' := ?_) ?_ ?_; rotate_left
                · show Act.put _ (some 95) _ = _; simp only [Act.put, Ext.sb, Ext.sz, Ext.ss, i64_w, i32_w]; rfl
                refine pure_ (i := 3) (N := some 96) (v := ?_) (a' := ?_) zb14_4 rfl rfl (any_of HT_.out (by kernel_rfl)) (fun _ _ _ h => h) (Or.inl ⟨by rfl, ?_⟩) ?_ ?_; rotate_left
                · intro w'; go_simp; with_reducible rfl
                rotate_left
                · simp only [Act.put, Ext.sb, Ext.sz, Ext.ss, i64_w, i32_w]; rfl
                refine pure_ (i := 4) (N := some 97) (v := ?_) (a' := ?_) zb14_5 rfl rfl (any_of HT_.out (by kernel_rfl)) (fun _ _ _ h => h) (Or.inl ⟨by rfl, ?_⟩) ?_ ?_; rotate_left
                · intro w'; go_simp; with_reducible rfl
                rotate_left
                · simp only [Act.put, Ext.sb, Ext.sz, Ext.ss, i64_w, i32_w]; rfl
                refine pure_ (i := 5) (N := some 98) (v := ?_) (a' := ?_) zb14_6 rfl rfl (any_of HT_.out (by kernel_rfl)) (fun _ _ _ h => h) (Or.inl ⟨by rfl, ?_⟩) ?_ ?_; rotate_left
                · intro w'; go_simp; with_reducible rfl
                rotate_left
                · simp only [Act.put, Ext.sb, Ext.sz, Ext.ss, i64_w, i32_w]; rfl
                refine take_ (i := 6) (N := some 99) (v := ?_) (a' := ?_) zb14_7 rfl rfl (take_ofW HT_.out HW_.out (by kernel_rfl)) (fun _ _ _ h => h) (Or.inl ⟨by rfl, ?_⟩) hHeld ?_ ?_; rotate_left
                · rintro w' ⟨s0, s1⟩; go_simp; with_reducible rfl
                rotate_left
                · simp only [Act.put, Ext.sb, Ext.sz, Ext.ss, i64_w, i32_w]; rfl
                refine one_ (i := 7) (N := some 100) zb14_8 rfl rfl (one_of HT_.out (by kernel_rfl)) (by decide) (fun K hK => ?_); refine goes_ Try.func31 (by kernel_rfl) rfl #[.int .i64 ((rd_T60 l0_4 x88_3).f1)] (by rfl) rfl rfl (by (try simp only [List.map_toArray, List.map_cons, List.map_nil]); first | done | rfl | (simp only [List.length_drop, List.length_take]; rfl)) ?_
                with_reducible refine (page_id.calls ((rd_T60 l0_4 x88_3).f1) true _ A67.out).mono ?_
                rintro e w' ⟨rfl, ⟨nd, rfl⟩⟩; refine ⟨_, rfl, ?_⟩; refine hK.out _ _ ⟨(blk_cell BK118.out 0).trans rfl, (blk_cell BK118.out 1).trans rfl⟩ (fun hHeld => ?_); clear hK K; refine norm_ (a' := ?_) ?_ ?_; rotate_left
                · show Act.put _ (some 100) _ = _; simp only [Act.put, Ext.sb, Ext.sz, Ext.ss, i64_w, i32_w]; rfl
                refine pure_ (i := 8) (N := some 101) (v := ?_) (a' := ?_) zb14_9 rfl rfl (any_of HT_.out (by kernel_rfl)) (fun _ _ _ h => h) (Or.inl ⟨by rfl, ?_⟩) ?_ ?_; rotate_left
                · intro w'; go_simp; with_reducible rfl
                rotate_left
                · simp only [Act.put, Ext.sb, Ext.sz, Ext.ss, i64_w, i32_w]; rfl
                refine pure_ (i := 9) (N := some 102) (v := ?_) (a' := ?_) zb14_10 rfl rfl (any_of HT_.out (by kernel_rfl)) (fun _ _ _ h => h) (Or.inl ⟨by rfl, ?_⟩) ?_ ?_; rotate_left
                · intro w'; go_simp; with_reducible rfl
                rotate_left
                · simp only [Act.put, Ext.sb, Ext.sz, Ext.ss, i64_w, i32_w]; rfl
                refine pure_ (i := 10) (N := some 103) (v := ?_) (a' := ?_) zb14_11 rfl rfl (any_of HT_.out (by kernel_rfl)) (fun _ _ _ h => h) (Or.inl ⟨by rfl, ?_⟩) ?_ ?_; rotate_left
                · intro w'; go_simp; with_reducible rfl
                rotate_left
                · simp only [Act.put, Ext.sb, Ext.sz, Ext.ss, i64_w, i32_w]; rfl
                refine pure_ (i := 11) (N := some 104) (v := ?_) (a' := ?_) zb14_12 rfl rfl (any_of HT_.out (by kernel_rfl)) (fun _ _ _ h => h) (Or.inl ⟨by rfl, ?_⟩) ?_ ?_; rotate_left
                · intro w'; go_simp; with_reducible rfl
                rotate_left
                · simp only [Act.put, Ext.sb, Ext.sz, Ext.ss, i64_w, i32_w]; rfl
                refine pure_ (i := 12) (N := some 105) (v := ?_) (a' := ?_) zb14_13 rfl rfl (any_of HT_.out (by kernel_rfl)) (fun _ _ _ h => h) (Or.inl ⟨by rfl, ?_⟩) ?_ ?_; rotate_left
                · intro w'; go_simp; with_reducible rfl
                rotate_left
                · simp only [Act.put, Ext.sb, Ext.sz, Ext.ss, i64_w, i32_w]; rfl
                refine pure_ (i := 13) (N := some 106) (v := ?_) (a' := ?_) zb14_14 rfl rfl (any_of HT_.out (by kernel_rfl)) (fun _ _ _ h => h) (Or.inl ⟨by rfl, ?_⟩) ?_ ?_; rotate_left
                · intro w'; go_simp; with_reducible rfl
                rotate_left
                · simp only [Act.put, Ext.sb, Ext.sz, Ext.ss, i64_w, i32_w]; rfl
                refine pure_ (i := 14) (N := some 107) (v := undef) (a' := ?_) zb14_15 rfl rfl (any_of HT_.out (by kernel_rfl)) (fun _ _ _ h => h) (Or.inr ⟨by rfl, rfl⟩) ?_ ?_; rotate_left
                · simp only [Act.put, Ext.sb, Ext.sz, Ext.ss, i64_w, i32_w]; rfl
                refine pure_ (i := 15) (N := some 108) (v := undef) (a' := ?_) zb14_22 rfl rfl (any_of HT_.out (by kernel_rfl)) (fun _ _ _ h => h) (Or.inr ⟨by rfl, rfl⟩) ?_ ?_; rotate_left
                · simp only [Act.put, Ext.sb, Ext.sz, Ext.ss, i64_w, i32_w]; rfl
                refine pure_ (i := 16) (N := some 109) (v := undef) (a' := ?_) zb14_23 rfl rfl (any_of HT_.out (by kernel_rfl)) (fun _ _ _ h => h) (Or.inr ⟨by rfl, rfl⟩) ?_ ?_; rotate_left
                · simp only [Act.put, Ext.sb, Ext.sz, Ext.ss, i64_w, i32_w]; rfl
                refine pure_ (i := 17) (N := some 110) (v := undef) (a' := ?_) zb14_24 rfl rfl (any_of HT_.out (by kernel_rfl)) (fun _ _ _ h => h) (Or.inr ⟨by rfl, rfl⟩) ?_ ?_; rotate_left
                · simp only [Act.put, Ext.sb, Ext.sz, Ext.ss, i64_w, i32_w]; rfl
                refine pure_ (i := 18) (N := some 111) (v := undef) (a' := ?_) zb14_25 rfl rfl (any_of HT_.out (by kernel_rfl)) (fun _ _ _ h => h) (Or.inr ⟨by rfl, rfl⟩) ?_ ?_; rotate_left
                · simp only [Act.put, Ext.sb, Ext.sz, Ext.ss, i64_w, i32_w]; rfl
                refine pure_ (i := 19) (N := some 112) (v := undef) (a' := ?_) zb14_26 rfl rfl (any_of HT_.out (by kernel_rfl)) (fun _ _ _ h => h) (Or.inr ⟨by rfl, rfl⟩) ?_ ?_; rotate_left
                · simp only [Act.put, Ext.sb, Ext.sz, Ext.ss, i64_w, i32_w]; rfl
                refine pure_ (i := 20) (N := some 113) (v := undef) (a' := ?_) zb14_27 rfl rfl (any_of HT_.out (by kernel_rfl)) (fun _ _ _ h => h) (Or.inr ⟨by rfl, rfl⟩) ?_ ?_; rotate_left
                · simp only [Act.put, Ext.sb, Ext.sz, Ext.ss, i64_w, i32_w]; rfl
                refine pure_ (i := 21) (N := some 114) (v := undef) (a' := ?_) zb14_16 rfl rfl (any_of HT_.out (by kernel_rfl)) (fun _ _ _ h => h) (Or.inr ⟨by rfl, rfl⟩) ?_ ?_; rotate_left
                · simp only [Act.put, Ext.sb, Ext.sz, Ext.ss, i64_w, i32_w]; rfl
                refine pure_ (i := 22) (N := some 115) (v := undef) (a' := ?_) zb14_17 rfl rfl (any_of HT_.out (by kernel_rfl)) (fun _ _ _ h => h) (Or.inr ⟨by rfl, rfl⟩) ?_ ?_; rotate_left
                · simp only [Act.put, Ext.sb, Ext.sz, Ext.ss, i64_w, i32_w]; rfl
                refine pure_ (i := 23) (N := some 116) (v := undef) (a' := ?_) zb14_18 rfl rfl (any_of HT_.out (by kernel_rfl)) (fun _ _ _ h => h) (Or.inr ⟨by rfl, rfl⟩) ?_ ?_; rotate_left
                · simp only [Act.put, Ext.sb, Ext.sz, Ext.ss, i64_w, i32_w]; rfl
                refine pure_ (i := 24) (N := some 117) (v := undef) (a' := ?_) zb14_19 rfl rfl (any_of HT_.out (by kernel_rfl)) (fun _ _ _ h => h) (Or.inr ⟨by rfl, rfl⟩) ?_ ?_; rotate_left
                · simp only [Act.put, Ext.sb, Ext.sz, Ext.ss, i64_w, i32_w]; rfl
                refine pure_ (i := 25) (N := some 118) (v := ?_) (a' := ?_) zb14_20 rfl rfl (any_of HT_.out (by kernel_rfl)) (fun _ _ _ h => h) (Or.inl ⟨by rfl, ?_⟩) ?_ ?_; rotate_left
                · intro w'; go_simp; with_reducible rfl
                rotate_left
                · simp only [Act.put, Ext.sb, Ext.sz, Ext.ss, i64_w, i32_w]; rfl
                refine pure_ (i := 26) (N := some 119) (v := ?_) (a' := ?_) zb14_21 rfl rfl (any_of HT_.out (by kernel_rfl)) (fun _ _ _ h => h) (Or.inl ⟨by rfl, ?_⟩) ?_ ?_; rotate_left
                · intro w'; go_simp; with_reducible rfl
                rotate_left
                · simp only [Act.put, Ext.sb, Ext.sz, Ext.ss, i64_w, i32_w]; rfl
                refine done_ (done_of HT_.out (by kernel_rfl)) ?_
                try go_wp2
                go_meet
                case rel => exact ⟨_, (false), (by first | rfl | (simp; done) | (simp [*]; done)), H', ⟨by have := HJ2.out; have := HK2.out; have := HK3.out; first | omega | exact Nat.le_refl _⟩, ⟨by (with_reducible repeat (first | refine blk_drewN ?_ _ | refine blk_drew ?_ | refine blk_alloc ?_ _)); exact BK109.out⟩, ⟨by (with_reducible repeat (first | refine blk_drewN ?_ _ | refine blk_drew ?_ | refine blk_alloc ?_ _)); exact BK118.out⟩, ⟨by exact Ext.s2 GE109.out GE118.out HB.out⟩⟩
              ·
               replace c68 := Bool.eq_false_iff.mpr c68; subst c68; rw [if_neg Bool.false_ne_true] at H; have H' := Aside0.mk H; clear H
               try go_wp2
               replace BK109 := Ext.a (blk_drew BK109.out); replace BK118 := Ext.a (blk_drew BK118.out); replace HB := Ext.a (below_drew1 HB.out); refine start_ (n := 27) (S := fun w' => w'.cell? ⟨gb118, 0, none⟩ = some (.slice A117_0 ((rd_T60 l0_4 x88_3).f0).length c117_0) ∧ w'.cell? ⟨gb118, 1, none⟩ = some (.int .i64 ((rd_T60 l0_4 x88_3).f1))) (ds := []) zb14_0 (by kernel_rfl) rfl rfl ⟨(blk_cell BK118.out 0).trans rfl, (blk_cell BK118.out 1).trans rfl⟩ (fun hHeld => ?_); refine with_tabW page_Right.tab13 page_Right.bits13 (fun HT_ HW_ => ?_); generalize w64.drew = w76 at BK109 BK118 HB hHeld ⊢; refine pure_ (i := 0) (N := some 93) (v := ?_) (a' := ?_) zb14_1 rfl rfl (any_of HT_.out (by kernel_rfl)) (fun _ _ _ h => h) (Or.inl ⟨by rfl, ?_⟩) ?_ ?_; rotate_left
               · intro w'; go_simp; with_reducible rfl
               rotate_left
               · simp only [Act.put, Ext.sb, Ext.sz, Ext.ss, i64_w, i32_w]; rfl
               refine take_ (i := 1) (N := some 94) (v := ?_) (a' := ?_) zb14_2 rfl rfl (take_ofW HT_.out HW_.out (by kernel_rfl)) (fun _ _ _ h => h) (Or.inl ⟨by rfl, ?_⟩) hHeld ?_ ?_; rotate_left
               · rintro w' ⟨s0, s1⟩; go_simp; with_reducible rfl
               rotate_left
               · simp only [Act.put, Ext.sb, Ext.sz, Ext.ss, i64_w, i32_w]; rfl
               refine one_ (i := 2) (N := some 95) zb14_3 rfl rfl (one_of HT_.out (by kernel_rfl)) (by decide) (fun K hK => ?_); refine goes_ Try.func30 (by kernel_rfl) rfl #[.slice A117_0 ((rd_T60 l0_4 x88_3).f0).length c117_0] (by rfl) rfl rfl (by (try simp only [List.map_toArray, List.map_cons, List.map_nil]); first | done | rfl | (simp only [List.length_drop, List.length_take]; rfl)) ?_
               with_reducible refine (page_key.calls _ _ ((rd_T60 l0_4 x88_3).f0) true _ ?side1 ?side2 A65.out).mono ?_
               (case side1 => first | exact Ext.kC HR117_0.out HB.out | exact Ext.nC HR117_0.out)
               (case side2 => exact HC117_0.out)
               rintro e w' ⟨rfl, ⟨nd, rfl⟩⟩; refine ⟨_, rfl, ?_⟩; refine hK.out _ _ ⟨(blk_cell BK118.out 0).trans rfl, (blk_cell BK118.out 1).trans rfl⟩ (fun hHeld => ?_); clear hK K; refine norm_ (a' := ?_) ?_ ?_; rotate_left
               · show Act.put _ (some 95) _ = _; simp only [Act.put, Ext.sb, Ext.sz, Ext.ss, i64_w, i32_w]; rfl
               refine pure_ (i := 3) (N := some 96) (v := ?_) (a' := ?_) zb14_4 rfl rfl (any_of HT_.out (by kernel_rfl)) (fun _ _ _ h => h) (Or.inl ⟨by rfl, ?_⟩) ?_ ?_; rotate_left
               · intro w'; go_simp; with_reducible rfl
               rotate_left
               · simp only [Act.put, Ext.sb, Ext.sz, Ext.ss, i64_w, i32_w]; rfl
               refine pure_ (i := 4) (N := some 97) (v := ?_) (a' := ?_) zb14_5 rfl rfl (any_of HT_.out (by kernel_rfl)) (fun _ _ _ h => h) (Or.inl ⟨by rfl, ?_⟩) ?_ ?_; rotate_left
               · intro w'; go_simp; with_reducible rfl
               rotate_left
               · simp only [Act.put, Ext.sb, Ext.sz, Ext.ss, i64_w, i32_w]; rfl
               refine pure_ (i := 5) (N := some 98) (v := ?_) (a' := ?_) zb14_6 rfl rfl (any_of HT_.out (by kernel_rfl)) (fun _ _ _ h => h) (Or.inl ⟨by rfl, ?_⟩) ?_ ?_; rotate_left
               · intro w'; go_simp; with_reducible rfl
               rotate_left
               · simp only [Act.put, Ext.sb, Ext.sz, Ext.ss, i64_w, i32_w]; rfl
               refine take_ (i := 6) (N := some 99) (v := ?_) (a' := ?_) zb14_7 rfl rfl (take_ofW HT_.out HW_.out (by kernel_rfl)) (fun _ _ _ h => h) (Or.inl ⟨by rfl, ?_⟩) hHeld ?_ ?_; rotate_left
               · rintro w' ⟨s0, s1⟩; go_simp; with_reducible rfl
               rotate_left
               · simp only [Act.put, Ext.sb, Ext.sz, Ext.ss, i64_w, i32_w]; rfl
               refine one_ (i := 7) (N := some 100) zb14_8 rfl rfl (one_of HT_.out (by kernel_rfl)) (by decide) (fun K hK => ?_); refine goes_ Try.func31 (by kernel_rfl) rfl #[.int .i64 ((rd_T60 l0_4 x88_3).f1)] (by rfl) rfl rfl (by (try simp only [List.map_toArray, List.map_cons, List.map_nil]); first | done | rfl | (simp only [List.length_drop, List.length_take]; rfl)) ?_
               with_reducible refine (page_id.calls ((rd_T60 l0_4 x88_3).f1) false _ A67.out).mono ?_
               rintro e w' ⟨rfl, ⟨nd, rfl⟩⟩; refine ⟨_, rfl, ?_⟩; refine hK.out _ _ ⟨(blk_cell BK118.out 0).trans rfl, (blk_cell BK118.out 1).trans rfl⟩ (fun hHeld => ?_); clear hK K; refine norm_ (a' := ?_) ?_ ?_; rotate_left
               · show Act.put _ (some 100) _ = _; simp only [Act.put, Ext.sb, Ext.sz, Ext.ss, i64_w, i32_w]; rfl
               refine pure_ (i := 8) (N := some 101) (v := ?_) (a' := ?_) zb14_9 rfl rfl (any_of HT_.out (by kernel_rfl)) (fun _ _ _ h => h) (Or.inl ⟨by rfl, ?_⟩) ?_ ?_; rotate_left
               · intro w'; go_simp; with_reducible rfl
               rotate_left
               · simp only [Act.put, Ext.sb, Ext.sz, Ext.ss, i64_w, i32_w]; rfl
               refine pure_ (i := 9) (N := some 102) (v := ?_) (a' := ?_) zb14_10 rfl rfl (any_of HT_.out (by kernel_rfl)) (fun _ _ _ h => h) (Or.inl ⟨by rfl, ?_⟩) ?_ ?_; rotate_left
               · intro w'; go_simp; with_reducible rfl
               rotate_left
               · simp only [Act.put, Ext.sb, Ext.sz, Ext.ss, i64_w, i32_w]; rfl
               refine pure_ (i := 10) (N := some 103) (v := ?_) (a' := ?_) zb14_11 rfl rfl (any_of HT_.out (by kernel_rfl)) (fun _ _ _ h => h) (Or.inl ⟨by rfl, ?_⟩) ?_ ?_; rotate_left
               · intro w'; go_simp; with_reducible rfl
               rotate_left
               · simp only [Act.put, Ext.sb, Ext.sz, Ext.ss, i64_w, i32_w]; rfl
               refine pure_ (i := 11) (N := some 104) (v := undef) (a' := ?_) zb14_12 rfl rfl (any_of HT_.out (by kernel_rfl)) (fun _ _ _ h => h) (Or.inr ⟨by rfl, rfl⟩) ?_ ?_; rotate_left
               · simp only [Act.put, Ext.sb, Ext.sz, Ext.ss, i64_w, i32_w]; rfl
               refine pure_ (i := 12) (N := some 105) (v := undef) (a' := ?_) zb14_13 rfl rfl (any_of HT_.out (by kernel_rfl)) (fun _ _ _ h => h) (Or.inr ⟨by rfl, rfl⟩) ?_ ?_; rotate_left
               · simp only [Act.put, Ext.sb, Ext.sz, Ext.ss, i64_w, i32_w]; rfl
               refine pure_ (i := 13) (N := some 106) (v := undef) (a' := ?_) zb14_14 rfl rfl (any_of HT_.out (by kernel_rfl)) (fun _ _ _ h => h) (Or.inr ⟨by rfl, rfl⟩) ?_ ?_; rotate_left
               · simp only [Act.put, Ext.sb, Ext.sz, Ext.ss, i64_w, i32_w]; rfl
               refine pure_ (i := 14) (N := some 107) (v := undef) (a' := ?_) zb14_15 rfl rfl (any_of HT_.out (by kernel_rfl)) (fun _ _ _ h => h) (Or.inr ⟨by rfl, rfl⟩) ?_ ?_; rotate_left
               · simp only [Act.put, Ext.sb, Ext.sz, Ext.ss, i64_w, i32_w]; rfl
               refine pure_ (i := 15) (N := some 108) (v := undef) (a' := ?_) zb14_22 rfl rfl (any_of HT_.out (by kernel_rfl)) (fun _ _ _ h => h) (Or.inr ⟨by rfl, rfl⟩) ?_ ?_; rotate_left
               · simp only [Act.put, Ext.sb, Ext.sz, Ext.ss, i64_w, i32_w]; rfl
               refine pure_ (i := 16) (N := some 109) (v := undef) (a' := ?_) zb14_23 rfl rfl (any_of HT_.out (by kernel_rfl)) (fun _ _ _ h => h) (Or.inr ⟨by rfl, rfl⟩) ?_ ?_; rotate_left
               · simp only [Act.put, Ext.sb, Ext.sz, Ext.ss, i64_w, i32_w]; rfl
               refine pure_ (i := 17) (N := some 110) (v := undef) (a' := ?_) zb14_24 rfl rfl (any_of HT_.out (by kernel_rfl)) (fun _ _ _ h => h) (Or.inr ⟨by rfl, rfl⟩) ?_ ?_; rotate_left
               · simp only [Act.put, Ext.sb, Ext.sz, Ext.ss, i64_w, i32_w]; rfl
               refine pure_ (i := 18) (N := some 111) (v := undef) (a' := ?_) zb14_25 rfl rfl (any_of HT_.out (by kernel_rfl)) (fun _ _ _ h => h) (Or.inr ⟨by rfl, rfl⟩) ?_ ?_; rotate_left
               · simp only [Act.put, Ext.sb, Ext.sz, Ext.ss, i64_w, i32_w]; rfl
               refine pure_ (i := 19) (N := some 112) (v := undef) (a' := ?_) zb14_26 rfl rfl (any_of HT_.out (by kernel_rfl)) (fun _ _ _ h => h) (Or.inr ⟨by rfl, rfl⟩) ?_ ?_; rotate_left
               · simp only [Act.put, Ext.sb, Ext.sz, Ext.ss, i64_w, i32_w]; rfl
               refine pure_ (i := 20) (N := some 113) (v := undef) (a' := ?_) zb14_27 rfl rfl (any_of HT_.out (by kernel_rfl)) (fun _ _ _ h => h) (Or.inr ⟨by rfl, rfl⟩) ?_ ?_; rotate_left
               · simp only [Act.put, Ext.sb, Ext.sz, Ext.ss, i64_w, i32_w]; rfl
               refine pure_ (i := 21) (N := some 114) (v := undef) (a' := ?_) zb14_16 rfl rfl (any_of HT_.out (by kernel_rfl)) (fun _ _ _ h => h) (Or.inr ⟨by rfl, rfl⟩) ?_ ?_; rotate_left
               · simp only [Act.put, Ext.sb, Ext.sz, Ext.ss, i64_w, i32_w]; rfl
               refine pure_ (i := 22) (N := some 115) (v := undef) (a' := ?_) zb14_17 rfl rfl (any_of HT_.out (by kernel_rfl)) (fun _ _ _ h => h) (Or.inr ⟨by rfl, rfl⟩) ?_ ?_; rotate_left
               · simp only [Act.put, Ext.sb, Ext.sz, Ext.ss, i64_w, i32_w]; rfl
               refine pure_ (i := 23) (N := some 116) (v := undef) (a' := ?_) zb14_18 rfl rfl (any_of HT_.out (by kernel_rfl)) (fun _ _ _ h => h) (Or.inr ⟨by rfl, rfl⟩) ?_ ?_; rotate_left
               · simp only [Act.put, Ext.sb, Ext.sz, Ext.ss, i64_w, i32_w]; rfl
               refine pure_ (i := 24) (N := some 117) (v := undef) (a' := ?_) zb14_19 rfl rfl (any_of HT_.out (by kernel_rfl)) (fun _ _ _ h => h) (Or.inr ⟨by rfl, rfl⟩) ?_ ?_; rotate_left
               · simp only [Act.put, Ext.sb, Ext.sz, Ext.ss, i64_w, i32_w]; rfl
               refine pure_ (i := 25) (N := some 118) (v := undef) (a' := ?_) zb14_20 rfl rfl (any_of HT_.out (by kernel_rfl)) (fun _ _ _ h => h) (Or.inr ⟨by rfl, rfl⟩) ?_ ?_; rotate_left
               · simp only [Act.put, Ext.sb, Ext.sz, Ext.ss, i64_w, i32_w]; rfl
               refine pure_ (i := 26) (N := some 119) (v := ?_) (a' := ?_) zb14_21 rfl rfl (any_of HT_.out (by kernel_rfl)) (fun _ _ _ h => h) (Or.inl ⟨by rfl, ?_⟩) ?_ ?_; rotate_left
               · intro w'; go_simp; with_reducible rfl
               rotate_left
               · simp only [Act.put, Ext.sb, Ext.sz, Ext.ss, i64_w, i32_w]; rfl
               refine done_ (done_of HT_.out (by kernel_rfl)) ?_
               try go_wp2
               go_meet
               case rel => exact ⟨_, (true), (by first | rfl | (simp; done) | (simp [*]; done)), H', ⟨by have := HJ2.out; have := HK2.out; have := HK3.out; first | omega | exact Nat.le_refl _⟩, ⟨by (with_reducible repeat (first | refine blk_drewN ?_ _ | refine blk_drew ?_ | refine blk_alloc ?_ _)); exact BK109.out⟩, ⟨by (with_reducible repeat (first | refine blk_drewN ?_ _ | refine blk_drew ?_ | refine blk_alloc ?_ _)); exact BK118.out⟩, ⟨by exact Ext.s2 GE109.out GE118.out HB.out⟩⟩
             ·
              replace c66 := Bool.eq_false_iff.mpr c66; subst c66; rw [if_neg Bool.false_ne_true] at H; have H' := Aside0.mk H; clear H
              try go_wp2
              replace BK109 := Ext.a (blk_drew BK109.out); replace BK118 := Ext.a (blk_drew BK118.out); replace HB := Ext.a (below_drew1 HB.out); refine start_ (n := 27) (S := fun w' => w'.cell? ⟨gb118, 0, none⟩ = some (.slice A117_0 ((rd_T60 l0_4 x88_3).f0).length c117_0) ∧ w'.cell? ⟨gb118, 1, none⟩ = some (.int .i64 ((rd_T60 l0_4 x88_3).f1))) (ds := []) zb14_0 (by kernel_rfl) rfl rfl ⟨(blk_cell BK118.out 0).trans rfl, (blk_cell BK118.out 1).trans rfl⟩ (fun hHeld => ?_); refine with_tabW page_Right.tab13 page_Right.bits13 (fun HT_ HW_ => ?_); generalize w64.drew = w77 at BK109 BK118 HB hHeld ⊢; refine pure_ (i := 0) (N := some 93) (v := ?_) (a' := ?_) zb14_1 rfl rfl (any_of HT_.out (by kernel_rfl)) (fun _ _ _ h => h) (Or.inl ⟨by rfl, ?_⟩) ?_ ?_; rotate_left
              · intro w'; go_simp; with_reducible rfl
              rotate_left
              · simp only [Act.put, Ext.sb, Ext.sz, Ext.ss, i64_w, i32_w]; rfl
              refine take_ (i := 1) (N := some 94) (v := ?_) (a' := ?_) zb14_2 rfl rfl (take_ofW HT_.out HW_.out (by kernel_rfl)) (fun _ _ _ h => h) (Or.inl ⟨by rfl, ?_⟩) hHeld ?_ ?_; rotate_left
              · rintro w' ⟨s0, s1⟩; go_simp; with_reducible rfl
              rotate_left
              · simp only [Act.put, Ext.sb, Ext.sz, Ext.ss, i64_w, i32_w]; rfl
              refine one_ (i := 2) (N := some 95) zb14_3 rfl rfl (one_of HT_.out (by kernel_rfl)) (by decide) (fun K hK => ?_); refine goes_ Try.func30 (by kernel_rfl) rfl #[.slice A117_0 ((rd_T60 l0_4 x88_3).f0).length c117_0] (by rfl) rfl rfl (by (try simp only [List.map_toArray, List.map_cons, List.map_nil]); first | done | rfl | (simp only [List.length_drop, List.length_take]; rfl)) ?_
              with_reducible refine (page_key.calls _ _ ((rd_T60 l0_4 x88_3).f0) false _ ?side1 ?side2 A65.out).mono ?_
              (case side1 => first | exact Ext.kC HR117_0.out HB.out | exact Ext.nC HR117_0.out)
              (case side2 => exact HC117_0.out)
              rintro e w' ⟨rfl, ⟨nd, rfl⟩⟩; refine ⟨_, rfl, ?_⟩; refine hK.out _ _ ⟨(blk_cell BK118.out 0).trans rfl, (blk_cell BK118.out 1).trans rfl⟩ (fun hHeld => ?_); clear hK K; refine norm_ (a' := ?_) ?_ ?_; rotate_left
              · show Act.put _ (some 95) _ = _; simp only [Act.put, Ext.sb, Ext.sz, Ext.ss, i64_w, i32_w]; rfl
              refine pure_ (i := 3) (N := some 96) (v := ?_) (a' := ?_) zb14_4 rfl rfl (any_of HT_.out (by kernel_rfl)) (fun _ _ _ h => h) (Or.inl ⟨by rfl, ?_⟩) ?_ ?_; rotate_left
              · intro w'; go_simp; with_reducible rfl
              rotate_left
              · simp only [Act.put, Ext.sb, Ext.sz, Ext.ss, i64_w, i32_w]; rfl
              refine pure_ (i := 4) (N := some 97) (v := ?_) (a' := ?_) zb14_5 rfl rfl (any_of HT_.out (by kernel_rfl)) (fun _ _ _ h => h) (Or.inl ⟨by rfl, ?_⟩) ?_ ?_; rotate_left
              · intro w'; go_simp; with_reducible rfl
              rotate_left
              · simp only [Act.put, Ext.sb, Ext.sz, Ext.ss, i64_w, i32_w]; rfl
              refine pure_ (i := 5) (N := some 98) (v := undef) (a' := ?_) zb14_6 rfl rfl (any_of HT_.out (by kernel_rfl)) (fun _ _ _ h => h) (Or.inr ⟨by rfl, rfl⟩) ?_ ?_; rotate_left
              · simp only [Act.put, Ext.sb, Ext.sz, Ext.ss, i64_w, i32_w]; rfl
              refine pure_ (i := 6) (N := some 99) (v := undef) (a' := ?_) zb14_7 rfl rfl (any_of HT_.out (by kernel_rfl)) (fun _ _ _ h => h) (Or.inr ⟨by rfl, rfl⟩) ?_ ?_; rotate_left
              · simp only [Act.put, Ext.sb, Ext.sz, Ext.ss, i64_w, i32_w]; rfl
              refine pure_ (i := 7) (N := some 100) (v := undef) (a' := ?_) zb14_8 rfl rfl (any_of HT_.out (by kernel_rfl)) (fun _ _ _ h => h) (Or.inr ⟨by rfl, rfl⟩) ?_ ?_; rotate_left
              · simp only [Act.put, Ext.sb, Ext.sz, Ext.ss, i64_w, i32_w]; rfl
              refine pure_ (i := 8) (N := some 101) (v := undef) (a' := ?_) zb14_9 rfl rfl (any_of HT_.out (by kernel_rfl)) (fun _ _ _ h => h) (Or.inr ⟨by rfl, rfl⟩) ?_ ?_; rotate_left
              · simp only [Act.put, Ext.sb, Ext.sz, Ext.ss, i64_w, i32_w]; rfl
              refine pure_ (i := 9) (N := some 102) (v := ?_) (a' := ?_) zb14_10 rfl rfl (any_of HT_.out (by kernel_rfl)) (fun _ _ _ h => h) (Or.inl ⟨by rfl, ?_⟩) ?_ ?_; rotate_left
              · intro w'; go_simp; with_reducible rfl
              rotate_left
              · simp only [Act.put, Ext.sb, Ext.sz, Ext.ss, i64_w, i32_w]; rfl
              refine pure_ (i := 10) (N := some 103) (v := ?_) (a' := ?_) zb14_11 rfl rfl (any_of HT_.out (by kernel_rfl)) (fun _ _ _ h => h) (Or.inl ⟨by rfl, ?_⟩) ?_ ?_; rotate_left
              · intro w'; go_simp; with_reducible rfl
              rotate_left
              · simp only [Act.put, Ext.sb, Ext.sz, Ext.ss, i64_w, i32_w]; rfl
              refine pure_ (i := 11) (N := some 104) (v := undef) (a' := ?_) zb14_12 rfl rfl (any_of HT_.out (by kernel_rfl)) (fun _ _ _ h => h) (Or.inr ⟨by rfl, rfl⟩) ?_ ?_; rotate_left
              · simp only [Act.put, Ext.sb, Ext.sz, Ext.ss, i64_w, i32_w]; rfl
              refine pure_ (i := 12) (N := some 105) (v := undef) (a' := ?_) zb14_13 rfl rfl (any_of HT_.out (by kernel_rfl)) (fun _ _ _ h => h) (Or.inr ⟨by rfl, rfl⟩) ?_ ?_; rotate_left
              · simp only [Act.put, Ext.sb, Ext.sz, Ext.ss, i64_w, i32_w]; rfl
              refine pure_ (i := 13) (N := some 106) (v := undef) (a' := ?_) zb14_14 rfl rfl (any_of HT_.out (by kernel_rfl)) (fun _ _ _ h => h) (Or.inr ⟨by rfl, rfl⟩) ?_ ?_; rotate_left
              · simp only [Act.put, Ext.sb, Ext.sz, Ext.ss, i64_w, i32_w]; rfl
              refine pure_ (i := 14) (N := some 107) (v := undef) (a' := ?_) zb14_15 rfl rfl (any_of HT_.out (by kernel_rfl)) (fun _ _ _ h => h) (Or.inr ⟨by rfl, rfl⟩) ?_ ?_; rotate_left
              · simp only [Act.put, Ext.sb, Ext.sz, Ext.ss, i64_w, i32_w]; rfl
              refine pure_ (i := 15) (N := some 108) (v := undef) (a' := ?_) zb14_22 rfl rfl (any_of HT_.out (by kernel_rfl)) (fun _ _ _ h => h) (Or.inr ⟨by rfl, rfl⟩) ?_ ?_; rotate_left
              · simp only [Act.put, Ext.sb, Ext.sz, Ext.ss, i64_w, i32_w]; rfl
              refine pure_ (i := 16) (N := some 109) (v := undef) (a' := ?_) zb14_23 rfl rfl (any_of HT_.out (by kernel_rfl)) (fun _ _ _ h => h) (Or.inr ⟨by rfl, rfl⟩) ?_ ?_; rotate_left
              · simp only [Act.put, Ext.sb, Ext.sz, Ext.ss, i64_w, i32_w]; rfl
              refine pure_ (i := 17) (N := some 110) (v := undef) (a' := ?_) zb14_24 rfl rfl (any_of HT_.out (by kernel_rfl)) (fun _ _ _ h => h) (Or.inr ⟨by rfl, rfl⟩) ?_ ?_; rotate_left
              · simp only [Act.put, Ext.sb, Ext.sz, Ext.ss, i64_w, i32_w]; rfl
              refine pure_ (i := 18) (N := some 111) (v := undef) (a' := ?_) zb14_25 rfl rfl (any_of HT_.out (by kernel_rfl)) (fun _ _ _ h => h) (Or.inr ⟨by rfl, rfl⟩) ?_ ?_; rotate_left
              · simp only [Act.put, Ext.sb, Ext.sz, Ext.ss, i64_w, i32_w]; rfl
              refine pure_ (i := 19) (N := some 112) (v := undef) (a' := ?_) zb14_26 rfl rfl (any_of HT_.out (by kernel_rfl)) (fun _ _ _ h => h) (Or.inr ⟨by rfl, rfl⟩) ?_ ?_; rotate_left
              · simp only [Act.put, Ext.sb, Ext.sz, Ext.ss, i64_w, i32_w]; rfl
              refine pure_ (i := 20) (N := some 113) (v := undef) (a' := ?_) zb14_27 rfl rfl (any_of HT_.out (by kernel_rfl)) (fun _ _ _ h => h) (Or.inr ⟨by rfl, rfl⟩) ?_ ?_; rotate_left
              · simp only [Act.put, Ext.sb, Ext.sz, Ext.ss, i64_w, i32_w]; rfl
              refine pure_ (i := 21) (N := some 114) (v := undef) (a' := ?_) zb14_16 rfl rfl (any_of HT_.out (by kernel_rfl)) (fun _ _ _ h => h) (Or.inr ⟨by rfl, rfl⟩) ?_ ?_; rotate_left
              · simp only [Act.put, Ext.sb, Ext.sz, Ext.ss, i64_w, i32_w]; rfl
              refine pure_ (i := 22) (N := some 115) (v := undef) (a' := ?_) zb14_17 rfl rfl (any_of HT_.out (by kernel_rfl)) (fun _ _ _ h => h) (Or.inr ⟨by rfl, rfl⟩) ?_ ?_; rotate_left
              · simp only [Act.put, Ext.sb, Ext.sz, Ext.ss, i64_w, i32_w]; rfl
              refine pure_ (i := 23) (N := some 116) (v := undef) (a' := ?_) zb14_18 rfl rfl (any_of HT_.out (by kernel_rfl)) (fun _ _ _ h => h) (Or.inr ⟨by rfl, rfl⟩) ?_ ?_; rotate_left
              · simp only [Act.put, Ext.sb, Ext.sz, Ext.ss, i64_w, i32_w]; rfl
              refine pure_ (i := 24) (N := some 117) (v := undef) (a' := ?_) zb14_19 rfl rfl (any_of HT_.out (by kernel_rfl)) (fun _ _ _ h => h) (Or.inr ⟨by rfl, rfl⟩) ?_ ?_; rotate_left
              · simp only [Act.put, Ext.sb, Ext.sz, Ext.ss, i64_w, i32_w]; rfl
              refine pure_ (i := 25) (N := some 118) (v := undef) (a' := ?_) zb14_20 rfl rfl (any_of HT_.out (by kernel_rfl)) (fun _ _ _ h => h) (Or.inr ⟨by rfl, rfl⟩) ?_ ?_; rotate_left
              · simp only [Act.put, Ext.sb, Ext.sz, Ext.ss, i64_w, i32_w]; rfl
              refine pure_ (i := 26) (N := some 119) (v := ?_) (a' := ?_) zb14_21 rfl rfl (any_of HT_.out (by kernel_rfl)) (fun _ _ _ h => h) (Or.inl ⟨by rfl, ?_⟩) ?_ ?_; rotate_left
              · intro w'; go_simp; with_reducible rfl
              rotate_left
              · simp only [Act.put, Ext.sb, Ext.sz, Ext.ss, i64_w, i32_w]; rfl
              refine done_ (done_of HT_.out (by kernel_rfl)) ?_
              try go_wp2
              go_meet
              case rel => exact ⟨_, (true), (by first | rfl | (simp; done) | (simp [*]; done)), H', ⟨by have := HJ2.out; have := HK2.out; have := HK3.out; first | omega | exact Nat.le_refl _⟩, ⟨by (with_reducible repeat (first | refine blk_drewN ?_ _ | refine blk_drew ?_ | refine blk_alloc ?_ _)); exact BK109.out⟩, ⟨by (with_reducible repeat (first | refine blk_drewN ?_ _ | refine blk_drew ?_ | refine blk_alloc ?_ _)); exact BK118.out⟩, ⟨by exact Ext.s2 GE109.out GE118.out HB.out⟩⟩
            case rest =>
             clear HC60; (try clear c6 c30 c31 c69b0); obtain ⟨kq, x119_59, rfl, HA, HJ59, BK109, BK118, HB⟩ := hcut; cases kq with
             | zero => exact absurd HA.out (by simp [page_Right.j4])
             | succ kj59 =>
              have H := HA.out; clear HA; simp only [page_Right.j4] at H
              by_cases c78 : x119_59 = true
              ·
               subst c78; rw [if_pos rfl] at H; obtain rfl := Option.some.inj H
               go_wp2
               go_ret
               exact ⟨by first | rfl | (simp [errW_none, errW_some] <;> rfl) | (simp [*, errW_none, errW_some] <;> rfl), by exact Ext.s2 GE109.out GE118.out HB.out⟩
              ·
               replace c78 := Bool.eq_false_iff.mpr c78; subst c78; rw [if_neg Bool.false_ne_true] at H; have H' := Aside0.mk H; clear H
               go_wp2
               go_roundg kj59
               case measure => have := HJ2.out; have := HK2.out; have := HK3.out; have := HJ59.out; omega
               case rel => exact ⟨(wrap64 (x88_3 + 1)), (by first | rfl | (simp; done) | (simp [*]; done)), H', ⟨by have := HJ2.out; have := HK2.out; have := HK3.out; have := HJ59.out; omega⟩, ⟨by exact BK109.out⟩, ⟨by exact Ext.s2 GE109.out GE118.out HB.out⟩⟩
           · rw [if_neg c59] at H; exact absurd H (by simp)
          · rw [if_neg c58] at H; exact absurd H (by simp)
         ·
          rw [if_neg c57] at H; have c57b0 := decide_eq_false c57; clear c57; have H' := Aside0.mk H; clear H; have hcz79 := Ext.cells7 BK109.out; have hfz79 := Ext.froz7 BK109.out
          go_wp2
          go_loopg [124] k3 (fun kq v124 w' => ∃ (x124_4 : Int), v124 = .int .i64 x124_4 ∧ Aside0 (page_Right.l2 kq l0_6 (l0_6.length : Int) x124_4 a0_0 a0_1 a0_2 l0_3 l0_4 l0_5 l0_6 = some r) ∧ Aside0 (kq ≤ k3) ∧ Aside0 (w'.heap[gb109]? = some (.cells #[.int .i64 a0_0, .int .u64 a0_1, .int .i64 a0_2, (.slice A0_3 l0_3.length c0_3), (.slice A0_4 l0_4.length c0_4), (.slice A0_5 l0_5.length c0_5), (.slice A0_6 l0_6.length c0_6)] 28 (0, 0))) ∧ Aside0 (Below w.heap.size w w'))
          case atStart => exact ⟨(0), (by first | rfl | (simp; done) | (simp [*]; done)), H', ⟨Nat.le_refl _⟩, ⟨by exact BK109.out⟩, ⟨by exact Ext.s1 GE109.out HB.out⟩⟩
          case round =>
           clear H'; (try clear c57b0 p64 hcz79 hfz79); obtain ⟨x124_4, rfl, HA, HK4, BK109, HB⟩ := hrel; cases gk with
           | zero => exact absurd HA.out (by simp [page_Right.l2])
           | succ k4 =>
            have H := HA.out; clear HA; simp only [page_Right.l2] at H
            by_cases c80 : x124_4 < (l0_6.length : Int)
            ·
             rw [if_pos c80] at H; have c80b0 := decide_eq_true c80; clear c80
             by_cases c81 : 0 ≤ x124_4
             ·
              rw [if_pos c81] at H; have c81b0 := decide_eq_true c81; clear c81
              by_cases c82 : x124_4 < (l0_6.length : Int)
              ·
               rw [if_pos c82] at H; have c82b0 := decide_eq_true c82; clear c82; have HC83 := Aside0.mk H; clear H; have p123 : 0 ≤ (x124_4 : Int) := of_decide_eq_true (by first | (with_reducible assumption) | assumption); have q123 : x124_4 < (l0_6.length : Int) := of_decide_eq_true (by first | (with_reducible assumption) | assumption); obtain ⟨ad123, e123, hx123_0⟩ := Kd.at_int HR0_6.out x124_4 p123 q123; cases e123; replace hx123_0 := (HB.out.cell (World.block_lt_of_cell? w _ hx123_0)).trans hx123_0; replace p123 := eq_true p123; replace q123 := eq_true q123
               go_upto_region 19 with (fail)
               go_cut [145] (fun v145 wc => ∃ (kq : Nat) (x145_82 : Bool), v145 = .bool x145_82 ∧ Aside0 (page_Right.j6 kq l0_6 (l0_6.length : Int) x124_4 x145_82 a0_0 a0_1 a0_2 l0_3 l0_4 l0_5 l0_6 = some r) ∧ Aside0 (kq ≤ k4) ∧ Aside0 (wc.heap[gb109]? = some (.cells #[.int .i64 a0_0, .int .u64 a0_1, .int .i64 a0_2, (.slice A0_3 l0_3.length c0_3), (.slice A0_4 l0_4.length c0_4), (.slice A0_5 l0_5.length c0_5), (.slice (some ad123) l0_6.length c0_6)] 28 (0, 0))) ∧ Aside0 (Below w.heap.size w wc))
               case first =>
                have H := HC83.out; clear HC83; replace H := Option.bind_eq_some_iff.mp H; obtain ⟨t124, A840, H⟩ := H; (try dsimp only at H); have A84 := Aside0.mk A840; clear A840
                by_cases c85 : t124 = true
                ·
                 subst c85; rw [if_pos rfl] at H
                 by_cases c86 : x124_4 > 0
                 ·
                  rw [if_pos c86] at H; have c86b0 := decide_eq_true c86; clear c86
                  (first | rw [c86b0] | (simp only [i64_w, i32_w]; rw [c86b0]) | skip)
                  obtain ⟨ji87, hji87⟩ : ∃ j_ : Int, (wrap64 (x124_4 - 1)) = j_ := ⟨_, rfl⟩
                  replace H : (if 0 ≤ (ji87) then (if (ji87) < (l0_6.length : Int) then (page_Right.j6 k4 l0_6 (l0_6.length : Int) x124_4 (decide ((rd l0_6 (ji87)) ≥ (rd l0_6 x124_4))) a0_0 a0_1 a0_2 l0_3 l0_4 l0_5 l0_6) else (none)) else (none)) = some r := by first | (rw [hji87] at H; exact H) | (simp only [hji87] at H ⊢; exact H)
                  (try rw [hji87] at A84); have hji87w : (IntKind.i64.wrap (x124_4 - 1)) = ji87 := (i64_w _).trans hji87
                  by_cases c88 : 0 ≤ (ji87)
                  ·
                   rw [if_pos c88] at H; have c88b0 := decide_eq_true c88; clear c88
                   by_cases c89 : (ji87) < (l0_6.length : Int)
                   ·
                    rw [if_pos c89] at H; have c89b0 := decide_eq_true c89; clear c89; have H' := Aside0.mk H; clear H
                    go_wp2_with (first | ((with_reducible refine gate_callee (f := 31) rfl ?_); refine Ext.gs (some 130) rfl rfl Try.func31 #[.int .i64 (rd l0_6 x124_4)] rfl ?_; (with_reducible refine (page_id.calls (rd l0_6 x124_4) true _ A84.out).mono ?_); rintro e w' ⟨rfl, ⟨nd, rfl⟩⟩; refine ⟨_, rfl, ?_⟩; have hcz90 := Ext.cells7 BK109.out; have hfz90 := Ext.froz7 BK109.out; have p125 : 0 ≤ ((ji87) : Int) := of_decide_eq_true (by first | (with_reducible assumption) | assumption); have q125 : (ji87) < (l0_6.length : Int) := of_decide_eq_true (by first | (with_reducible assumption) | assumption); obtain ⟨ad125, e125, hx125_0⟩ := Kd.at_int HR0_6.out (ji87) p125 q125; obtain rfl : ad123 = ad125 := (by injection e125); replace hx125_0 := (HB.out.cell (World.block_lt_of_cell? w _ hx125_0)).trans hx125_0; replace p125 := eq_true p125; replace q125 := eq_true q125))
                    go_meet
                    case rel => exact ⟨_, (decide ((rd l0_6 (ji87)) ≥ (rd l0_6 x124_4))), (by first | rfl | (simp; done) | (simp only [← hji87] <;> (first | rfl | simp)) | (simp [*]; done)), H', ⟨by have := HJ2.out; have := HK2.out; have := HK3.out; have := HK4.out; first | omega | exact Nat.le_refl _⟩, ⟨by (with_reducible repeat (first | refine blk_drewN ?_ _ | refine blk_drew ?_ | refine blk_alloc ?_ _)); exact BK109.out⟩, ⟨by exact Ext.s1 GE109.out HB.out⟩⟩
                   · rw [if_neg c89] at H; exact absurd H (by simp)
                  · rw [if_neg c88] at H; exact absurd H (by simp)
                 ·
                  rw [if_neg c86] at H; have c86b0 := decide_eq_false c86; clear c86
                  (first | rw [c86b0] | (simp only [i64_w, i32_w]; rw [c86b0]) | skip)
                  have H' := Aside0.mk H; clear H
                  go_wp2_with (first | ((with_reducible refine gate_callee (f := 31) rfl ?_); refine Ext.gs (some 130) rfl rfl Try.func31 #[.int .i64 (rd l0_6 x124_4)] rfl ?_; (with_reducible refine (page_id.calls (rd l0_6 x124_4) true _ A84.out).mono ?_); rintro e w' ⟨rfl, ⟨nd, rfl⟩⟩; refine ⟨_, rfl, ?_⟩))
                  go_meet
                  case rel => exact ⟨_, (false), (by first | rfl | (simp; done) | (simp [*]; done)), H', ⟨by have := HJ2.out; have := HK2.out; have := HK3.out; have := HK4.out; first | omega | exact Nat.le_refl _⟩, ⟨by (with_reducible repeat (first | refine blk_drewN ?_ _ | refine blk_drew ?_ | refine blk_alloc ?_ _)); exact BK109.out⟩, ⟨by exact Ext.s1 GE109.out HB.out⟩⟩
                ·
                 replace c85 := Bool.eq_false_iff.mpr c85; subst c85; rw [if_neg Bool.false_ne_true] at H; have H' := Aside0.mk H; clear H
                 go_wp2_with (first | ((with_reducible refine gate_callee (f := 31) rfl ?_); refine Ext.gs (some 130) rfl rfl Try.func31 #[.int .i64 (rd l0_6 x124_4)] rfl ?_; (with_reducible refine (page_id.calls (rd l0_6 x124_4) false _ A84.out).mono ?_); rintro e w' ⟨rfl, ⟨nd, rfl⟩⟩; refine ⟨_, rfl, ?_⟩))
                 go_meet
                 case rel => exact ⟨_, (true), (by first | rfl | (simp; done) | (simp [*]; done)), H', ⟨by have := HJ2.out; have := HK2.out; have := HK3.out; have := HK4.out; first | omega | exact Nat.le_refl _⟩, ⟨by (with_reducible repeat (first | refine blk_drewN ?_ _ | refine blk_drew ?_ | refine blk_alloc ?_ _)); exact BK109.out⟩, ⟨by exact Ext.s1 GE109.out HB.out⟩⟩
               case rest =>
                clear HC83; (try clear p12 q12 hx12 c80b0 c81b0 c82b0 c86b0 c88b0 c89b0 hcz90 hfz90 hx123_0 hx125_0 p123 p125 q123 q125); obtain ⟨kq, x145_82, rfl, HA, HJ82, BK109, HB⟩ := hcut; cases kq with
                | zero => exact absurd HA.out (by simp [page_Right.j6])
                | succ kj82 =>
                 have H := HA.out; clear HA; simp only [page_Right.j6] at H
                 by_cases c91 : x145_82 = true
                 ·
                  subst c91; rw [if_pos rfl] at H; obtain rfl := Option.some.inj H
                  go_wp2
                  go_ret
                  exact ⟨by first | rfl | (simp [errW_none, errW_some] <;> rfl) | (simp [*, errW_none, errW_some] <;> rfl), by exact Ext.s1 GE109.out HB.out⟩
                 ·
                  replace c91 := Bool.eq_false_iff.mpr c91; subst c91; rw [if_neg Bool.false_ne_true] at H; have H' := Aside0.mk H; clear H
                  go_wp2
                  go_roundg kj82
                  case measure => have := HJ2.out; have := HK2.out; have := HK3.out; have := HK4.out; have := HJ82.out; omega
                  case rel => exact ⟨(wrap64 (x124_4 + 1)), (by first | rfl | (simp; done) | (simp [*]; done)), H', ⟨by have := HJ2.out; have := HK2.out; have := HK3.out; have := HK4.out; have := HJ82.out; omega⟩, ⟨by exact BK109.out⟩, ⟨by exact Ext.s1 GE109.out HB.out⟩⟩
              · rw [if_neg c82] at H; exact absurd H (by simp)
             · rw [if_neg c81] at H; exact absurd H (by simp)
            ·
             rw [if_neg c80] at H; have c80b0 := decide_eq_false c80; clear c80; replace H := Option.bind_eq_some_iff.mp H; obtain ⟨t126, A920, H⟩ := H; (try dsimp only at H); have A92 := Aside0.mk A920; clear A920; obtain rfl := Option.some.inj H; have hcz93 := Ext.cells7 BK109.out; have hfz93 := Ext.froz7 BK109.out
             go_wp2_with (first | ((with_reducible refine gate_dst (N := 147) rfl ?_); (try (refine gate_guard (by rfl) ?_; dsimp only)); refine Ext.struct_load_blk (hgd := ?hg) (t := 28) (x := ?vx_147) (ho := ?ho) (haddr := ?ha) Try.underlying28 rfl (by kernel_rfl) BK109.out ?_; (case ho => rfl); (case hg => rfl); (case ha => rfl)) | ((with_reducible refine gate_callee (f := 18) rfl ?_); refine Ext.gs (some 148) rfl rfl Try.func18 #[.agg #[.int .i64 a0_0, .int .u64 a0_1, .int .i64 a0_2, .slice A0_3 l0_3.length c0_3, .slice A0_4 l0_4.length c0_4, .slice A0_5 l0_5.length c0_5, .slice A0_6 l0_6.length c0_6]] rfl ?_; (with_reducible refine (page_Used.calls k4 a0_0 a0_1 a0_2 _ _ l0_3 _ _ l0_4 _ _ l0_5 _ _ l0_6 t126 _ ?side1 ?side2 ?side3 ?side4 ?side5 ?side6 ?side7 ?side8 A92.out).mono ?_); (case side1 => first | exact Ext.kC HR0_3.out HB.out | exact Ext.nC HR0_3.out); (case side2 => exact HC0_3.out); (case side3 => first | exact Ext.kC HR0_4.out HB.out | exact Ext.nC HR0_4.out); (case side4 => exact HC0_4.out); (case side5 => first | exact Ext.kC HR0_5.out HB.out | exact Ext.nC HR0_5.out); (case side6 => exact HC0_5.out); (case side7 => first | exact Ext.kC HR0_6.out HB.out | exact Ext.nC HR0_6.out); (case side8 => exact HC0_6.out); rintro e w94 ⟨rfl, hb⟩; refine ⟨_, rfl, ?_⟩; replace BK109 := Ext.a (blk_below BK109.out hb); replace HB := Ext.a (below_step (Ext.s1 GE109.out HB.out) hb); (try clear hb)))
             go_ret
             exact ⟨by first | rfl | (simp [errW_none, errW_some] <;> rfl) | (simp [*, errW_none, errW_some] <;> rfl), by exact Ext.s1 GE109.out HB.out⟩

end Go.Proofs.Ytandeendeoempaa.PC
