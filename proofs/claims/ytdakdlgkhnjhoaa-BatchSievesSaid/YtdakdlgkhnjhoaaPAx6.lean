-- Written by wip/printx.py, a program of this work over the kit's print, for this claim.
import Derived.Test.YtdakdlgkhnjhoaaPAx0
import Derived.Test.YtdakdlgkhnjhoaaPAx5
namespace Go.Proofs.Ytdakdlgkhnjhoaa.PA
open Go.RowKit Go.Proofs.YtdakdlgkhnjhoaaW.PrintWords Go.Proofs.YtdakdlgkhnjhoaaW.PrintLast Go.Proofs.YtdakdlgkhnjhoaaW.PrintMore
attribute [local go_sem] max2_int min2_int max_two min_two max_three min_three max_four min_four   -- for this text's walks alone
attribute [local go_sem] Ext.pick_u8 Ext.pick_u32 Ext.pick_u64
set_option linter.unusedVariables false
set_option linter.unusedSimpArgs false

@[reducible] def zb10_0 : Array Bool := #[false, false, false, false, false, false, false, false, false, false, false, false, false, false, false, false, false, false, false, false, false, false, false, false, false, false, false, false, false, false, false, false, false, false, false, false, false, false, false, false, false, false, false, false, false, false, false, false, false, false, false, false]
@[reducible] def zb10_1 : Array Bool := #[true, false, false, false, false, false, false, false, false, false, false, false, false, false, false, false, false, false, false, false, false, false, false, false, false, false, false, false, false, false, false, false, false, false, false, false, false, false, false, false, false, false, false, false, false, false, false, false, false, false, false, false]
@[reducible] def zb10_2 : Array Bool := #[true, true, false, false, false, false, false, false, false, false, false, false, false, false, false, false, false, false, false, false, false, false, false, false, false, false, false, false, false, false, false, false, false, false, false, false, false, false, false, false, false, false, false, false, false, false, false, false, false, false, false, false]
@[reducible] def zb10_3 : Array Bool := #[true, true, true, false, false, false, false, false, false, false, false, false, false, false, false, false, false, false, false, false, false, false, false, false, false, false, false, false, false, false, false, false, false, false, false, false, false, false, false, false, false, false, false, false, false, false, false, false, false, false, false, false]
@[reducible] def zb10_4 : Array Bool := #[true, true, true, true, false, false, false, false, false, false, false, false, false, false, false, false, false, false, false, false, false, false, false, false, false, false, false, false, false, false, false, false, false, false, false, false, false, false, false, false, false, false, false, false, false, false, false, false, false, false, false, false]
@[reducible] def zb10_5 : Array Bool := #[true, true, true, true, false, true, false, false, false, false, false, false, false, false, false, false, false, false, false, false, false, false, false, false, false, false, false, false, false, false, false, false, false, false, false, false, false, false, false, false, false, false, false, false, false, false, false, false, false, false, false, false]
@[reducible] def zb10_6 : Array Bool := #[true, true, true, true, false, true, true, false, false, false, false, false, false, false, false, false, false, false, false, false, false, false, false, false, false, false, false, false, false, false, false, false, false, false, false, false, false, false, false, false, false, false, false, false, false, false, false, false, false, false, false, false]
@[reducible] def zb10_7 : Array Bool := #[true, true, true, true, false, true, true, true, false, false, false, false, false, false, false, false, false, false, false, false, false, false, false, false, false, false, false, false, false, false, false, false, false, false, false, false, false, false, false, false, false, false, false, false, false, false, false, false, false, false, false, false]
@[reducible] def zb10_8 : Array Bool := #[true, true, true, true, false, true, true, true, true, false, false, false, false, false, false, false, false, false, false, false, false, false, false, false, false, false, false, false, false, false, false, false, false, false, false, false, false, false, false, false, false, false, false, false, false, false, false, false, false, false, false, false]
@[reducible] def zb10_9 : Array Bool := #[true, true, true, true, true, true, true, true, true, false, false, false, false, false, false, false, false, false, false, false, false, false, false, false, false, false, false, false, false, false, false, false, false, false, false, false, false, false, false, false, false, false, false, false, false, false, false, false, false, false, false, false]
@[reducible] def zb10_10 : Array Bool := #[true, true, true, true, true, true, true, true, true, true, false, false, false, false, false, false, false, false, false, false, false, false, false, false, false, false, false, false, false, false, false, false, false, false, false, false, false, false, false, false, false, false, false, false, false, false, false, false, false, false, false, false]
@[reducible] def zb10_11 : Array Bool := #[true, true, true, true, true, true, true, true, true, true, true, false, false, false, false, false, false, false, false, false, false, false, false, false, false, false, false, false, false, false, false, false, false, false, false, false, false, false, false, false, false, false, false, false, false, false, false, false, false, false, false, false]
@[reducible] def zb10_12 : Array Bool := #[true, true, true, true, true, true, true, true, true, true, true, true, false, false, false, false, false, false, false, false, false, false, false, false, false, false, false, false, false, false, false, false, false, false, false, false, false, false, false, false, false, false, false, false, false, false, false, false, false, false, false, false]
@[reducible] def zb10_13 : Array Bool := #[true, true, true, true, true, true, true, true, true, true, true, true, true, false, false, false, false, false, false, false, false, false, false, false, false, false, false, false, false, false, false, false, false, false, false, false, false, false, false, false, false, false, false, false, false, false, false, false, false, false, false, false]
@[reducible] def zb10_14 : Array Bool := #[true, true, true, true, true, true, true, true, true, true, true, true, true, true, false, false, false, false, false, false, false, false, false, false, false, false, false, false, false, false, false, false, false, false, false, false, false, false, false, false, false, false, false, false, false, false, false, false, false, false, false, false]
@[reducible] def zb10_15 : Array Bool := #[true, true, true, true, true, true, true, true, true, true, true, true, true, true, true, false, false, false, false, false, false, false, false, false, false, false, false, false, false, false, false, false, false, false, false, false, false, false, false, false, false, false, false, false, false, false, false, false, false, false, false, false]
@[reducible] def zb10_16 : Array Bool := #[true, true, true, true, true, true, true, true, true, true, true, true, true, true, true, true, false, false, false, false, false, false, false, false, false, false, false, false, false, false, false, false, false, false, false, false, false, false, false, false, false, false, false, false, false, false, false, false, false, false, false, false]
@[reducible] def zb10_17 : Array Bool := #[true, true, true, true, true, true, true, true, true, true, true, true, true, true, true, true, true, true, true, true, true, false, false, false, false, false, false, false, false, false, false, false, false, false, false, false, false, false, false, false, false, false, false, false, false, false, false, false, false, false, false, false]
@[reducible] def zb10_18 : Array Bool := #[true, true, true, true, true, true, true, true, true, true, true, true, true, true, true, true, true, true, true, true, true, true, false, false, false, false, false, false, false, false, false, false, false, false, false, false, false, false, false, false, false, false, false, false, false, false, false, false, false, false, false, false]
@[reducible] def zb10_19 : Array Bool := #[true, true, true, true, true, true, true, true, true, true, true, true, true, true, true, true, true, true, true, true, true, true, true, false, false, false, false, false, false, false, false, false, false, false, false, false, false, false, false, false, false, false, false, false, false, false, false, false, false, false, false, false]
@[reducible] def zb10_20 : Array Bool := #[true, true, true, true, true, true, true, true, true, true, true, true, true, true, true, true, true, true, true, true, true, true, true, true, false, false, false, false, false, false, false, false, false, false, false, false, false, false, false, false, false, false, false, false, false, false, false, false, false, false, false, false]
@[reducible] def zb10_21 : Array Bool := #[true, true, true, true, true, true, true, true, true, true, true, true, true, true, true, true, true, true, true, true, true, true, true, true, true, false, false, false, false, false, false, false, false, false, false, false, false, false, false, false, false, false, false, false, false, false, false, false, false, false, false, false]
@[reducible] def zb10_22 : Array Bool := #[true, true, true, true, true, true, true, true, true, true, true, true, true, true, true, true, true, true, true, true, true, true, true, true, true, true, false, false, false, false, false, false, false, false, false, false, false, false, false, false, false, false, false, false, false, false, false, false, false, false, false, false]
@[reducible] def zb10_23 : Array Bool := #[true, true, true, true, true, true, true, true, true, true, true, true, true, true, true, true, true, true, true, true, true, true, true, true, true, true, true, false, false, false, false, false, false, false, false, false, false, false, false, false, false, false, false, false, false, false, false, false, false, false, false, false]
@[reducible] def zb10_24 : Array Bool := #[true, true, true, true, true, true, true, true, true, true, true, true, true, true, true, true, true, true, true, true, true, true, true, true, true, true, true, true, false, false, false, false, false, false, false, false, false, false, false, false, false, false, false, false, false, false, false, false, false, false, false, false]
@[reducible] def zb10_25 : Array Bool := #[true, true, true, true, true, true, true, true, true, true, true, true, true, true, true, true, true, true, true, true, true, true, true, true, true, true, true, true, true, false, false, false, false, false, false, false, false, false, false, false, false, false, false, false, false, false, false, false, false, false, false, false]
@[reducible] def zb10_26 : Array Bool := #[true, true, true, true, true, true, true, true, true, true, true, true, true, true, true, true, true, true, true, true, true, true, true, true, true, true, true, true, true, true, true, true, true, true, false, false, false, false, false, false, false, false, false, false, false, false, false, false, false, false, false, false]
@[reducible] def zb10_27 : Array Bool := #[true, true, true, true, true, true, true, true, true, true, true, true, true, true, true, true, true, true, true, true, true, true, true, true, true, true, true, true, true, true, true, true, true, true, true, false, false, false, false, false, false, false, false, false, false, false, false, false, false, false, false, false]
@[reducible] def zb10_28 : Array Bool := #[true, true, true, true, true, true, true, true, true, true, true, true, true, true, true, true, true, true, true, true, true, true, true, true, true, true, true, true, true, true, true, true, true, true, true, true, false, false, false, false, false, false, false, false, false, false, false, false, false, false, false, false]
@[reducible] def zb10_29 : Array Bool := #[true, true, true, true, true, true, true, true, true, true, true, true, true, true, true, true, true, true, true, true, true, true, true, true, true, true, true, true, true, true, true, true, true, true, true, true, true, false, false, false, false, false, false, false, false, false, false, false, false, false, false, false]
@[reducible] def zb10_30 : Array Bool := #[true, true, true, true, true, true, true, true, true, true, true, true, true, true, true, true, true, true, true, true, true, true, true, true, true, true, true, true, true, true, true, true, true, true, true, true, true, true, false, false, false, false, false, false, false, false, false, false, false, false, false, false]
@[reducible] def zb10_31 : Array Bool := #[true, true, true, true, true, true, true, true, true, true, true, true, true, true, true, true, true, true, true, true, true, true, true, true, true, true, true, true, true, true, true, true, true, true, true, true, true, true, true, false, false, false, false, false, false, false, false, false, false, false, false, false]
@[reducible] def zb10_32 : Array Bool := #[true, true, true, true, true, true, true, true, true, true, true, true, true, true, true, true, true, true, true, true, true, true, true, true, true, true, true, true, true, true, true, true, true, true, true, true, true, true, true, true, false, false, false, false, false, false, false, false, false, false, false, false]
@[reducible] def zb10_33 : Array Bool := #[true, true, true, true, true, true, true, true, true, true, true, true, true, true, true, true, true, true, true, true, true, true, true, true, true, true, true, true, true, true, true, true, true, true, true, true, true, true, true, true, true, false, false, false, false, false, false, false, false, false, false, false]
@[reducible] def zb10_34 : Array Bool := #[true, true, true, true, true, true, true, true, true, true, true, true, true, true, true, true, true, true, true, true, true, true, true, true, true, true, true, true, true, true, true, true, true, true, true, true, true, true, true, true, true, true, false, false, false, false, false, false, false, false, false, false]
@[reducible] def zb10_35 : Array Bool := #[true, true, true, true, true, true, true, true, true, true, true, true, true, true, true, true, true, true, true, true, true, true, true, true, true, true, true, true, true, true, true, true, true, true, true, true, true, true, true, true, true, true, true, false, false, false, false, false, false, false, false, false]
@[reducible] def zb10_36 : Array Bool := #[true, true, true, true, true, true, true, true, true, true, true, true, true, true, true, true, true, true, true, true, true, true, true, true, true, true, true, true, true, true, true, true, true, true, true, true, true, true, true, true, true, true, true, true, true, true, true, true, false, false, false, false]
@[reducible] def zb10_37 : Array Bool := #[true, true, true, true, true, true, true, true, true, true, true, true, true, true, true, true, true, true, true, true, true, true, true, true, true, true, true, true, true, true, true, true, true, true, true, true, true, true, true, true, true, true, true, true, true, true, true, true, true, false, false, false]
@[reducible] def zb10_38 : Array Bool := #[true, true, true, true, true, true, true, true, true, true, true, true, true, true, true, true, true, true, true, true, true, true, true, true, true, true, true, true, true, true, true, true, true, true, true, true, true, true, true, true, true, true, true, true, true, true, true, true, true, true, false, false]
@[reducible] def zb10_39 : Array Bool := #[true, true, true, true, true, true, true, true, true, true, true, true, true, true, true, true, true, true, true, true, true, true, true, true, true, true, true, true, true, true, true, true, true, true, true, true, true, true, true, true, true, true, true, true, true, true, true, true, true, true, true, false]
@[reducible] def zb10_40 : Array Bool := #[true, true, true, true, true, true, true, true, true, true, true, true, true, true, true, true, true, true, true, true, true, true, true, true, true, true, true, true, true, true, true, true, true, true, true, true, true, true, true, true, true, true, true, true, true, true, true, true, true, true, true, true]
@[reducible] def zb10_41 : Array Bool := #[true, true, true, true, true, true, true, true, true, true, true, true, true, true, true, true, false, true, false, false, false, false, false, false, false, false, false, false, false, false, false, false, false, false, false, false, false, false, false, false, false, false, false, false, false, false, false, false, false, false, false, false]
@[reducible] def zb10_42 : Array Bool := #[true, true, true, true, true, true, true, true, true, true, true, true, true, true, true, true, false, true, true, false, false, false, false, false, false, false, false, false, false, false, false, false, false, false, false, false, false, false, false, false, false, false, false, false, false, false, false, false, false, false, false, false]
@[reducible] def zb10_43 : Array Bool := #[true, true, true, true, true, true, true, true, true, true, true, true, true, true, true, true, false, true, true, true, false, false, false, false, false, false, false, false, false, false, false, false, false, false, false, false, false, false, false, false, false, false, false, false, false, false, false, false, false, false, false, false]
@[reducible] def zb10_44 : Array Bool := #[true, true, true, true, true, true, true, true, true, true, true, true, true, true, true, true, false, true, true, true, true, false, false, false, false, false, false, false, false, false, false, false, false, false, false, false, false, false, false, false, false, false, false, false, false, false, false, false, false, false, false, false]
@[reducible] def zb10_45 : Array Bool := #[true, true, true, true, true, true, true, true, true, true, true, true, true, true, true, true, true, true, true, true, true, true, true, true, true, true, true, true, true, true, true, true, true, true, true, true, true, true, true, true, true, true, true, true, false, false, false, false, false, false, false, false]
@[reducible] def zb10_46 : Array Bool := #[true, true, true, true, true, true, true, true, true, true, true, true, true, true, true, true, true, true, true, true, true, true, true, true, true, true, true, true, true, true, true, true, true, true, true, true, true, true, true, true, true, true, true, true, true, false, false, false, false, false, false, false]
@[reducible] def zb10_47 : Array Bool := #[true, true, true, true, true, true, true, true, true, true, true, true, true, true, true, true, true, true, true, true, true, true, true, true, true, true, true, true, true, true, true, true, true, true, true, true, true, true, true, true, true, true, true, true, true, true, false, false, false, false, false, false]
@[reducible] def zb10_48 : Array Bool := #[true, true, true, true, true, true, true, true, true, true, true, true, true, true, true, true, true, true, true, true, true, true, true, true, true, true, true, true, true, true, true, true, true, true, true, true, true, true, true, true, true, true, true, true, true, true, true, false, false, false, false, false]
@[reducible] def zb10_49 : Array Bool := #[true, true, true, true, true, true, true, true, true, true, true, true, true, true, true, true, true, true, true, true, true, true, true, true, true, true, true, true, true, true, false, false, false, false, false, false, false, false, false, false, false, false, false, false, false, false, false, false, false, false, false, false]
@[reducible] def zb10_50 : Array Bool := #[true, true, true, true, true, true, true, true, true, true, true, true, true, true, true, true, true, true, true, true, true, true, true, true, true, true, true, true, true, false, true, false, false, false, false, false, false, false, false, false, false, false, false, false, false, false, false, false, false, false, false, false]
@[reducible] def zb10_51 : Array Bool := #[true, true, true, true, true, true, true, true, true, true, true, true, true, true, true, true, true, true, true, true, true, true, true, true, true, true, true, true, true, true, true, false, false, false, false, false, false, false, false, false, false, false, false, false, false, false, false, false, false, false, false, false]
@[reducible] def zb10_52 : Array Bool := #[true, true, true, true, true, true, true, true, true, true, true, true, true, true, true, true, true, true, true, true, true, true, true, true, true, true, true, true, true, false, true, true, false, false, false, false, false, false, false, false, false, false, false, false, false, false, false, false, false, false, false, false]
@[reducible] def zb10_53 : Array Bool := #[true, true, true, true, true, true, true, true, true, true, true, true, true, true, true, true, true, true, true, true, true, true, true, true, true, true, true, true, true, true, true, true, false, false, false, false, false, false, false, false, false, false, false, false, false, false, false, false, false, false, false, false]
@[reducible] def zb10_54 : Array Bool := #[true, true, true, true, true, true, true, true, true, true, true, true, true, true, true, true, true, true, true, true, true, true, true, true, true, true, true, true, true, false, true, true, true, false, false, false, false, false, false, false, false, false, false, false, false, false, false, false, false, false, false, false]
@[reducible] def zb10_55 : Array Bool := #[true, true, true, true, true, true, true, true, true, true, true, true, true, true, true, true, true, true, true, true, true, true, true, true, true, true, true, true, true, true, true, true, true, false, false, false, false, false, false, false, false, false, false, false, false, false, false, false, false, false, false, false]
@[reducible] def zb10_56 : Array Bool := #[true, true, true, true, true, true, true, true, true, true, true, true, true, true, true, true, true, true, true, true, true, true, true, true, true, true, true, true, true, false, true, true, true, true, false, false, false, false, false, false, false, false, false, false, false, false, false, false, false, false, false, false]

/-! ### terrierref17_Same: function 10 -/
mutual
def terrierref17_Same.l0 : Nat → List (S38) → List (S38) → Int → Int → Option (Bool)
 | 0, _, _, _, _ => none
 | k + 1, x0, x1, x12, x13 => if x13 < x12 then (if 0 ≤ x13 then (if x13 < (x0.length : Int) then (if x13 < (x1.length : Int) then (if ((rd_T38 x0 x13).f0) = ((rd_T38 x1 x13).f0) then (if (((rd_T38 x0 x13).f2) != ((rd_T38 x1 x13).f2)) = true then (terrierref17_Same.j1 k x0 x1 x12 x13 true) else ((terrierref13_Same.f ((rd_T38 x0 x13).f1.f0) ((rd_T38 x0 x13).f1.f1) ((rd_T38 x0 x13).f1.f2) ((rd_T38 x0 x13).f1.f3) ((rd_T38 x0 x13).f1.f4) ((rd_T38 x0 x13).f1.f5) ((rd_T38 x1 x13).f1.f0) ((rd_T38 x1 x13).f1.f1) ((rd_T38 x1 x13).f1.f2) ((rd_T38 x1 x13).f1.f3) ((rd_T38 x1 x13).f1.f4) ((rd_T38 x1 x13).f1.f5)).bind fun t204 => (if t204 = true then ((terrierref13_Same.f ((rd_T38 x0 x13).f3.f0) ((rd_T38 x0 x13).f3.f1) ((rd_T38 x0 x13).f3.f2) ((rd_T38 x0 x13).f3.f3) ((rd_T38 x0 x13).f3.f4) ((rd_T38 x0 x13).f3.f5) ((rd_T38 x1 x13).f3.f0) ((rd_T38 x1 x13).f3.f1) ((rd_T38 x1 x13).f3.f2) ((rd_T38 x1 x13).f3.f3) ((rd_T38 x1 x13).f3.f4) ((rd_T38 x1 x13).f3.f5)).bind fun t207 => (terrierref17_Same.j1 k x0 x1 x12 x13 (!t207))) else (terrierref17_Same.j1 k x0 x1 x12 x13 true)))) else (terrierref17_Same.j1 k x0 x1 x12 x13 true)) else (none)) else (none)) else (none)) else (some true)
def terrierref17_Same.j1 : Nat → List (S38) → List (S38) → Int → Int → Bool → Option (Bool)
 | 0, _, _, _, _, _ => none
 | k + 1, x0, x1, x12, x13, x67 => if x67 = true then (some false) else (terrierref17_Same.l0 k x0 x1 x12 (wrap64 (x13 + 1)))
end
def terrierref17_Same.f (k : Nat) (l0 : List (S38)) (l1 : List (S38)) : Option (Bool) := if (l0.length : Int) = (l1.length : Int) then (terrierref17_Same.l0 k l0 l1 (l0.length : Int) 0) else (some false)
theorem terrierref17_Same.mono_l : ∀ k, (∀ y0 y1 y2 y3, LeO (terrierref17_Same.l0 k y0 y1 y2 y3) (terrierref17_Same.l0 (k + 1) y0 y1 y2 y3)) ∧ (∀ y0 y1 y2 y3 y4, LeO (terrierref17_Same.j1 k y0 y1 y2 y3 y4) (terrierref17_Same.j1 (k + 1) y0 y1 y2 y3 y4))
 | 0 => ⟨fun _ _ _ _ r h => by simp [terrierref17_Same.l0] at h, fun _ _ _ _ _ r h => by simp [terrierref17_Same.j1] at h⟩
 | k + 1 => by
  obtain ⟨ih0, ih1⟩ := terrierref17_Same.mono_l k; refine ⟨?_, ?_⟩
  ·
   intro y0 y1 y2 y3
   unfold terrierref17_Same.l0
   repeat' first
   | (with_reducible exact ih0 _ _ _ _)
   | (with_reducible exact ih1 _ _ _ _ _)
   | (with_reducible exact LeO.refl _)
   | (with_reducible exact LeO.none _)
   | (with_reducible refine LeO.ite ?_ ?_)
   | (with_reducible refine LeO.bind ?_ (fun _ => ?_))
   | exact ih0 _ _ _ _
   | exact ih1 _ _ _ _ _
   | exact LeO.none _
   | refine LeO.ite ?_ ?_
   | refine LeO.bind ?_ (fun _ => ?_)
  ·
   intro y0 y1 y2 y3 y4
   unfold terrierref17_Same.j1
   repeat' first
   | (with_reducible exact ih0 _ _ _ _)
   | (with_reducible exact ih1 _ _ _ _ _)
   | (with_reducible exact LeO.refl _)
   | (with_reducible exact LeO.none _)
   | (with_reducible refine LeO.ite ?_ ?_)
   | (with_reducible refine LeO.bind ?_ (fun _ => ?_))
   | exact ih0 _ _ _ _
   | exact ih1 _ _ _ _ _
   | exact LeO.none _
   | refine LeO.ite ?_ ?_
   | refine LeO.bind ?_ (fun _ => ?_)
theorem terrierref17_Same.mono : ∀ a0 a1 k, LeO (terrierref17_Same.f k a0 a1) (terrierref17_Same.f (k + 1) a0 a1) := by
 intro a0 a1 k
 obtain ⟨ih0, ih1⟩ := terrierref17_Same.mono_l k; unfold terrierref17_Same.f
 repeat' first
   | (with_reducible exact ih0 _ _ _ _)
   | (with_reducible exact ih1 _ _ _ _ _)
   | (with_reducible exact LeO.refl _)
   | (with_reducible exact LeO.none _)
   | (with_reducible refine LeO.ite ?_ ?_)
   | (with_reducible refine LeO.bind ?_ (fun _ => ?_))
   | exact ih0 _ _ _ _
   | exact ih1 _ _ _ _ _
   | exact LeO.none _
   | refine LeO.ite ?_ ?_
   | refine LeO.bind ?_ (fun _ => ?_)
def terrierref17_Same.T6 : Bool × List (List Nat × List Nat) := (true, [([], []), ([], []), ([0, 1], [0, 1]), ([2], [2]), ([3], [3]), ([], []), ([], []), ([5, 6], [5, 6]), ([7], [7]), ([8], [8]), ([4, 9], [4, 9]), ([10], [10]), ([11], [11]), ([11], [11]), ([12, 13, 11], [11, 12, 13]), ([14, 11], [11, 14]), ([15, 11], [11, 15]), ([11], [11]), ([11], [11]), ([17, 18, 11], [11, 17, 18]), ([19, 11], [11, 19]), ([20, 11], [11, 20]), ([16, 21, 11], [11, 16, 21]), ([11, 22], [11, 22]), ([23, 11], [23]), ([24], [24]), ([24], [24]), ([25, 26, 24], [24, 25, 26]), ([27, 24], [24, 27]), ([28, 24], [24, 28]), ([24], [24]), ([24], [24]), ([30, 31, 24], [24, 30, 31]), ([32, 24], [24, 32]), ([33, 24], [24, 33]), ([29, 34, 24, 24], [24, 29, 34]), ([35, 24], [24, 35]), ([24, 36], [24, 36]), ([37, 35], [37]), ([38], [38]), ([38], [38]), ([39, 40, 38], [38, 39, 40]), ([41, 38], [38, 41]), ([42, 38], [38, 42]), ([38], [38]), ([38], [38]), ([44, 45, 38], [38, 44, 45]), ([46, 38], [38, 46]), ([47, 38], [38, 47]), ([43, 48, 38, 38], [38, 43, 48]), ([49, 38], [38, 49]), ([38, 50], [38, 50])])
def terrierref17_Same.B6 : List Nat := [0, 0, 3, 7, 15, 0, 0, 96, 224, 480, 1023, 2047, 4095, 4095, 16383, 32767, 65535, 4095, 4095, 397311, 921599, 1970175, 4194303, 8388607, 16777215, 33554431, 33554431, 134217727, 268435455, 536870911, 33554431, 33554431, 3254779903, 7549747199, 16139681791, 34359738367, 68719476735, 137438953471, 274877906943, 549755813887, 549755813887, 2199023255551, 4398046511103, 8796093022207, 549755813887, 549755813887, 53326313947135, 123695058124799, 264432546480127, 562949953421311, 1125899906842623, 2251799813685247]
theorem terrierref17_Same.tab6 : rtab .any (opsOf Try.f10 6) = terrierref17_Same.T6 := by kernel_rfl
theorem terrierref17_Same.bits6 : waitsOk terrierref17_Same.T6.2 terrierref17_Same.B6 = true := by kernel_rfl
set_option maxHeartbeats 8000000 in
set_option maxRecDepth 100000 in
theorem terrierref17_Same.calls (k : Nat) (A0 : Option Addr) (c0 : Nat) (l0 : List (S38)) (A1 : Option Addr) (c1 : Nat) (l1 : List (S38)) (r : Bool) (w : World) (hr0 : Kd.C k38 w A0 l0.length l0) (hc0 : l0.length ≤ c0) (hr1 : Kd.C k38 w A1 l1.length l1) (hc1 : l1.length ≤ c1) (h : terrierref17_Same.f k l0 l1 = some r) :
  Calls Try.prog 10 #[.slice A0 l0.length c0, .slice A1 l1.length c1] w fun e w' => e = .returned (.bool r) ∧ Below w.heap.size w w' := by
 have hu36 := Try.underlying36; have HR0 := Aside0.mk hr0; have HC0 := Aside0.mk hc0; clear hr0 hc0; have HR1 := Aside0.mk hr1; have HC1 := Aside0.mk hc1; clear hr1 hc1; have HB := Ext.a (Below.refl w.heap.size w); have H := h; unfold terrierref17_Same.f at H; clear h
 by_cases c3 : (l0.length : Int) = (l1.length : Int)
 ·
  rw [if_pos c3] at H; obtain ⟨c3b0, c3b1⟩ := Ext.eT c3
  have c3b2 : (l0.length == l1.length) = true := by first | simpa using c3 | (simp at c3 ⊢; omega)
  clear c3; have H' := Aside0.mk H; clear H
  go_enter Try.func10, Try.ntmps10
  go_wp2
  go_loopg [13] k (fun kq v13 w' => ∃ (x13_1 : Int), v13 = .int .i64 x13_1 ∧ Aside0 (terrierref17_Same.l0 kq l0 l1 (l0.length : Int) x13_1 = some r) ∧ Aside0 (kq ≤ k) ∧ Aside0 (Below w.heap.size w w'))
  case atStart => exact ⟨(0), (by first | rfl | (simp; done) | (simp [*]; done)), H', ⟨Nat.le_refl _⟩, ⟨by exact Ext.nB HB.out⟩⟩
  case round =>
   clear H'; (try clear c1 p2 c3b0 c3b1 c3b2); obtain ⟨x13_1, rfl, HA, HK1, HB⟩ := hrel; cases gk with
   | zero => exact absurd HA.out (by simp [terrierref17_Same.l0])
   | succ k1 =>
    have H := HA.out; clear HA; simp only [terrierref17_Same.l0] at H
    by_cases c4 : x13_1 < (l0.length : Int)
    ·
     rw [if_pos c4] at H; have c4b0 := decide_eq_true c4; clear c4; have HC5 := Aside0.mk H; clear H
     go_upto_region 6 with (fail)
     go_cut [67] (fun v67 wc => ∃ (kq : Nat) (x67_4 : Bool), v67 = .bool x67_4 ∧ Aside0 (terrierref17_Same.j1 kq l0 l1 (l0.length : Int) x13_1 x67_4 = some r) ∧ Aside0 (kq ≤ k1) ∧ Aside0 (Below w.heap.size w wc))
     case first =>
      have H := HC5.out; clear HC5
      by_cases c6 : 0 ≤ x13_1
      ·
       rw [if_pos c6] at H; have c6b0 := decide_eq_true c6; clear c6
       (first | rw [c6b0] | (simp only [i64_w, i32_w]; rw [c6b0]) | skip)
       by_cases c7 : x13_1 < (l0.length : Int)
       ·
        rw [if_pos c7] at H; have c7b0 := decide_eq_true c7; clear c7
        by_cases c8 : x13_1 < (l1.length : Int)
        ·
         rw [if_pos c8] at H; have c8b0 := decide_eq_true c8; clear c8
         by_cases c9 : ((rd_T38 l0 x13_1).f0) = ((rd_T38 l1 x13_1).f0)
         ·
          rw [if_pos c9] at H; obtain ⟨c9b0, c9b1⟩ := Ext.eT c9; clear c9
          by_cases c12 : (((rd_T38 l0 x13_1).f2) != ((rd_T38 l1 x13_1).f2)) = true
          ·
           rw [if_pos c12] at H; have c12b0 : (((rd_T38 l0 x13_1).f2) != ((rd_T38 l1 x13_1).f2)) = true := c12; (try (have c12b1 : decide (((rd_T38 l0 x13_1).f2) = ((rd_T38 l1 x13_1).f2)) = false := by simpa using c12)); (try (have c12b2 : (((rd_T38 l0 x13_1).f2) == ((rd_T38 l1 x13_1).f2)) = false := by simpa using c12)); (try (have c12b3 : ¬ (((rd_T38 l0 x13_1).f2) = ((rd_T38 l1 x13_1).f2)) := by simpa using c12)); clear c12; have H' := Aside0.mk H; clear H
           try go_wp2
           replace HB := Ext.a (below_drew1 HB.out); have p198 : 0 ≤ (x13_1 : Int) := of_decide_eq_true (by first | (with_reducible assumption) | assumption); have q198 : x13_1 < (l0.length : Int) := of_decide_eq_true (by first | (with_reducible assumption) | assumption); obtain ⟨ad198, A198_1, c198_1, A198_2, c198_2, A198_8, c198_8, A198_9, c198_9, e198, hx198_0, hx198_1, hx198_2, hx198_3, hx198_4, hx198_5, hx198_6, hx198_7, hx198_8, hx198_9, hx198_10, hx198_11, hx198_12, hx198_13, hl198_1, hi198_1, hl198_2, hi198_2, hl198_8, hi198_8, hl198_9, hi198_9⟩ := at_T38 HR0.out x13_1 p198 q198; have hw198_13 := hx198_13; have hw198_12 := hx198_12; have hw198_11 := hx198_11; have hw198_10 := hx198_10; have hw198_9 := hx198_9; have hw198_8 := hx198_8; have hw198_7 := hx198_7; have hw198_6 := hx198_6; have hw198_5 := hx198_5; have hw198_4 := hx198_4; have hw198_3 := hx198_3; have hw198_2 := hx198_2; have hw198_1 := hx198_1; have hw198_0 := hx198_0; cases e198; replace hx198_0 := (HB.out.cell (World.block_lt_of_cell? w _ hx198_0)).trans hx198_0; replace hx198_1 := (HB.out.cell (World.block_lt_of_cell? w _ hx198_1)).trans hx198_1; replace hx198_2 := (HB.out.cell (World.block_lt_of_cell? w _ hx198_2)).trans hx198_2; replace hx198_3 := (HB.out.cell (World.block_lt_of_cell? w _ hx198_3)).trans hx198_3; replace hx198_4 := (HB.out.cell (World.block_lt_of_cell? w _ hx198_4)).trans hx198_4; replace hx198_5 := (HB.out.cell (World.block_lt_of_cell? w _ hx198_5)).trans hx198_5; replace hx198_6 := (HB.out.cell (World.block_lt_of_cell? w _ hx198_6)).trans hx198_6
           replace hx198_7 := (HB.out.cell (World.block_lt_of_cell? w _ hx198_7)).trans hx198_7; replace hx198_8 := (HB.out.cell (World.block_lt_of_cell? w _ hx198_8)).trans hx198_8; replace hx198_9 := (HB.out.cell (World.block_lt_of_cell? w _ hx198_9)).trans hx198_9; replace hx198_10 := (HB.out.cell (World.block_lt_of_cell? w _ hx198_10)).trans hx198_10; replace hx198_11 := (HB.out.cell (World.block_lt_of_cell? w _ hx198_11)).trans hx198_11; replace hx198_12 := (HB.out.cell (World.block_lt_of_cell? w _ hx198_12)).trans hx198_12; replace hx198_13 := (HB.out.cell (World.block_lt_of_cell? w _ hx198_13)).trans hx198_13; have HR198_1 := Aside0.mk hi198_1; have HC198_1 := Aside0.mk hl198_1; clear hi198_1 hl198_1; have HR198_2 := Aside0.mk hi198_2; have HC198_2 := Aside0.mk hl198_2; clear hi198_2 hl198_2; have HR198_8 := Aside0.mk hi198_8; have HC198_8 := Aside0.mk hl198_8; clear hi198_8 hl198_8; have HR198_9 := Aside0.mk hi198_9; have HC198_9 := Aside0.mk hl198_9; clear hi198_9 hl198_9; replace p198 := eq_true p198; replace q198 := eq_true q198; have p199 : 0 ≤ (x13_1 : Int) := of_decide_eq_true (by first | (with_reducible assumption) | assumption); have q199 : x13_1 < (l1.length : Int) := of_decide_eq_true (by first | (with_reducible assumption) | assumption); obtain ⟨ad199, A199_1, c199_1, A199_2, c199_2, A199_8, c199_8, A199_9, c199_9, e199, hx199_0, hx199_1, hx199_2, hx199_3, hx199_4, hx199_5, hx199_6, hx199_7, hx199_8, hx199_9, hx199_10, hx199_11, hx199_12, hx199_13, hl199_1, hi199_1, hl199_2, hi199_2, hl199_8, hi199_8, hl199_9, hi199_9⟩ := at_T38 HR1.out x13_1 p199 q199
           have hw199_13 := hx199_13; have hw199_12 := hx199_12; have hw199_11 := hx199_11; have hw199_10 := hx199_10; have hw199_9 := hx199_9; have hw199_8 := hx199_8; have hw199_7 := hx199_7; have hw199_6 := hx199_6; have hw199_5 := hx199_5; have hw199_4 := hx199_4; have hw199_3 := hx199_3; have hw199_2 := hx199_2; have hw199_1 := hx199_1; have hw199_0 := hx199_0; cases e199; replace hx199_0 := (HB.out.cell (World.block_lt_of_cell? w _ hx199_0)).trans hx199_0; replace hx199_1 := (HB.out.cell (World.block_lt_of_cell? w _ hx199_1)).trans hx199_1; replace hx199_2 := (HB.out.cell (World.block_lt_of_cell? w _ hx199_2)).trans hx199_2; replace hx199_3 := (HB.out.cell (World.block_lt_of_cell? w _ hx199_3)).trans hx199_3; replace hx199_4 := (HB.out.cell (World.block_lt_of_cell? w _ hx199_4)).trans hx199_4; replace hx199_5 := (HB.out.cell (World.block_lt_of_cell? w _ hx199_5)).trans hx199_5; replace hx199_6 := (HB.out.cell (World.block_lt_of_cell? w _ hx199_6)).trans hx199_6; replace hx199_7 := (HB.out.cell (World.block_lt_of_cell? w _ hx199_7)).trans hx199_7; replace hx199_8 := (HB.out.cell (World.block_lt_of_cell? w _ hx199_8)).trans hx199_8; replace hx199_9 := (HB.out.cell (World.block_lt_of_cell? w _ hx199_9)).trans hx199_9; replace hx199_10 := (HB.out.cell (World.block_lt_of_cell? w _ hx199_10)).trans hx199_10; replace hx199_11 := (HB.out.cell (World.block_lt_of_cell? w _ hx199_11)).trans hx199_11; replace hx199_12 := (HB.out.cell (World.block_lt_of_cell? w _ hx199_12)).trans hx199_12
           replace hx199_13 := (HB.out.cell (World.block_lt_of_cell? w _ hx199_13)).trans hx199_13; have HR199_1 := Aside0.mk hi199_1; have HC199_1 := Aside0.mk hl199_1; clear hi199_1 hl199_1; have HR199_2 := Aside0.mk hi199_2; have HC199_2 := Aside0.mk hl199_2; clear hi199_2 hl199_2; have HR199_8 := Aside0.mk hi199_8; have HC199_8 := Aside0.mk hl199_8; clear hi199_8 hl199_8; have HR199_9 := Aside0.mk hi199_9; have HC199_9 := Aside0.mk hl199_9; clear hi199_9 hl199_9; replace p199 := eq_true p199; replace q199 := eq_true q199; have p10 : 0 ≤ (x13_1 : Int) := of_decide_eq_true (by first | (with_reducible assumption) | assumption); have q10 : (x13_1 : Int) < ((l0.length : Int) : Int) := of_decide_eq_true (by first | (with_reducible assumption) | assumption); replace p10 := eq_true p10; replace q10 := eq_true q10; have p11 : 0 ≤ (x13_1 : Int) := of_decide_eq_true (by first | (with_reducible assumption) | assumption); have q11 : (x13_1 : Int) < ((l1.length : Int) : Int) := of_decide_eq_true (by first | (with_reducible assumption) | assumption); replace p11 := eq_true p11; replace q11 := eq_true q11; refine start_ (n := 52) (S := fun w' => w'.cell? (ad198.add ((x13_1).toNat * 14)) = some (.int .i64 ((rd_T38 l0 x13_1).f0)) ∧ w'.cell? ⟨(ad198.add ((x13_1).toNat * 14)).block, (ad198.add ((x13_1).toNat * 14)).off + 1, none⟩ = some (.slice A198_1 ((rd_T38 l0 x13_1).f1.f0).length c198_1) ∧ w'.cell? ⟨(ad198.add ((x13_1).toNat * 14)).block, (ad198.add ((x13_1).toNat * 14)).off + 2, none⟩ = some (.slice A198_2 ((rd_T38 l0 x13_1).f1.f1).length c198_2) ∧ w'.cell? ⟨(ad198.add ((x13_1).toNat * 14)).block, (ad198.add ((x13_1).toNat * 14)).off + 3, none⟩ = some (.int .i64 ((rd_T38 l0 x13_1).f1.f2)) ∧ w'.cell? ⟨(ad198.add ((x13_1).toNat * 14)).block, (ad198.add ((x13_1).toNat * 14)).off + 4, none⟩ = some (.int .i64 ((rd_T38 l0 x13_1).f1.f3)) ∧ w'.cell? ⟨(ad198.add ((x13_1).toNat * 14)).block, (ad198.add ((x13_1).toNat * 14)).off + 5, none⟩ = some (.int .i64 ((rd_T38 l0 x13_1).f1.f4)) ∧ w'.cell? ⟨(ad198.add ((x13_1).toNat * 14)).block, (ad198.add ((x13_1).toNat * 14)).off + 6, none⟩ = some (.int .i64 ((rd_T38 l0 x13_1).f1.f5)) ∧ w'.cell? ⟨(ad198.add ((x13_1).toNat * 14)).block, (ad198.add ((x13_1).toNat * 14)).off + 7, none⟩ = some (.bool ((rd_T38 l0 x13_1).f2)) ∧ w'.cell? ⟨(ad198.add ((x13_1).toNat * 14)).block, (ad198.add ((x13_1).toNat * 14)).off + 8, none⟩ = some (.slice A198_8 ((rd_T38 l0 x13_1).f3.f0).length c198_8) ∧ w'.cell? ⟨(ad198.add ((x13_1).toNat * 14)).block, (ad198.add ((x13_1).toNat * 14)).off + 9, none⟩ = some (.slice A198_9 ((rd_T38 l0 x13_1).f3.f1).length c198_9) ∧ w'.cell? ⟨(ad198.add ((x13_1).toNat * 14)).block, (ad198.add ((x13_1).toNat * 14)).off + 10, none⟩ = some (.int .i64 ((rd_T38 l0 x13_1).f3.f2)) ∧ w'.cell? ⟨(ad198.add ((x13_1).toNat * 14)).block, (ad198.add ((x13_1).toNat * 14)).off + 11, none⟩ = some (.int .i64 ((rd_T38 l0 x13_1).f3.f3)) ∧ w'.cell? ⟨(ad198.add ((x13_1).toNat * 14)).block, (ad198.add ((x13_1).toNat * 14)).off + 12, none⟩ = some (.int .i64 ((rd_T38 l0 x13_1).f3.f4)) ∧ w'.cell? ⟨(ad198.add ((x13_1).toNat * 14)).block, (ad198.add ((x13_1).toNat * 14)).off + 13, none⟩ = some (.int .i64 ((rd_T38 l0 x13_1).f3.f5)) ∧ w'.cell? (ad199.add ((x13_1).toNat * 14)) = some (.int .i64 ((rd_T38 l1 x13_1).f0)) ∧ w'.cell? ⟨(ad199.add ((x13_1).toNat * 14)).block, (ad199.add ((x13_1).toNat * 14)).off + 1, none⟩ = some (.slice A199_1 ((rd_T38 l1 x13_1).f1.f0).length c199_1) ∧ w'.cell? ⟨(ad199.add ((x13_1).toNat * 14)).block, (ad199.add ((x13_1).toNat * 14)).off + 2, none⟩ = some (.slice A199_2 ((rd_T38 l1 x13_1).f1.f1).length c199_2) ∧ w'.cell? ⟨(ad199.add ((x13_1).toNat * 14)).block, (ad199.add ((x13_1).toNat * 14)).off + 3, none⟩ = some (.int .i64 ((rd_T38 l1 x13_1).f1.f2)) ∧ w'.cell? ⟨(ad199.add ((x13_1).toNat * 14)).block, (ad199.add ((x13_1).toNat * 14)).off + 4, none⟩ = some (.int .i64 ((rd_T38 l1 x13_1).f1.f3)) ∧ w'.cell? ⟨(ad199.add ((x13_1).toNat * 14)).block, (ad199.add ((x13_1).toNat * 14)).off + 5, none⟩ = some (.int .i64 ((rd_T38 l1 x13_1).f1.f4)) ∧ w'.cell? ⟨(ad199.add ((x13_1).toNat * 14)).block, (ad199.add ((x13_1).toNat * 14)).off + 6, none⟩ = some (.int .i64 ((rd_T38 l1 x13_1).f1.f5)) ∧ w'.cell? ⟨(ad199.add ((x13_1).toNat * 14)).block, (ad199.add ((x13_1).toNat * 14)).off + 7, none⟩ = some (.bool ((rd_T38 l1 x13_1).f2)) ∧ w'.cell? ⟨(ad199.add ((x13_1).toNat * 14)).block, (ad199.add ((x13_1).toNat * 14)).off + 8, none⟩ = some (.slice A199_8 ((rd_T38 l1 x13_1).f3.f0).length c199_8) ∧ w'.cell? ⟨(ad199.add ((x13_1).toNat * 14)).block, (ad199.add ((x13_1).toNat * 14)).off + 9, none⟩ = some (.slice A199_9 ((rd_T38 l1 x13_1).f3.f1).length c199_9) ∧ w'.cell? ⟨(ad199.add ((x13_1).toNat * 14)).block, (ad199.add ((x13_1).toNat * 14)).off + 10, none⟩ = some (.int .i64 ((rd_T38 l1 x13_1).f3.f2)) ∧ w'.cell? ⟨(ad199.add ((x13_1).toNat * 14)).block, (ad199.add ((x13_1).toNat * 14)).off + 11, none⟩ = some (.int .i64 ((rd_T38 l1 x13_1).f3.f3)) ∧ w'.cell? ⟨(ad199.add ((x13_1).toNat * 14)).block, (ad199.add ((x13_1).toNat * 14)).off + 12, none⟩ = some (.int .i64 ((rd_T38 l1 x13_1).f3.f4)) ∧ w'.cell? ⟨(ad199.add ((x13_1).toNat * 14)).block, (ad199.add ((x13_1).toNat * 14)).off + 13, none⟩ = some (.int .i64 ((rd_T38 l1 x13_1).f3.f5))) (ds := []) zb10_0 (by kernel_rfl) rfl rfl ⟨((HB.out.cell (World.block_lt_of_cell? w _ hw198_0)).trans hw198_0), ((HB.out.cell (World.block_lt_of_cell? w _ hw198_1)).trans hw198_1), ((HB.out.cell (World.block_lt_of_cell? w _ hw198_2)).trans hw198_2), ((HB.out.cell (World.block_lt_of_cell? w _ hw198_3)).trans hw198_3), ((HB.out.cell (World.block_lt_of_cell? w _ hw198_4)).trans hw198_4), ((HB.out.cell (World.block_lt_of_cell? w _ hw198_5)).trans hw198_5), ((HB.out.cell (World.block_lt_of_cell? w _ hw198_6)).trans hw198_6), ((HB.out.cell (World.block_lt_of_cell? w _ hw198_7)).trans hw198_7), ((HB.out.cell (World.block_lt_of_cell? w _ hw198_8)).trans hw198_8), ((HB.out.cell (World.block_lt_of_cell? w _ hw198_9)).trans hw198_9), ((HB.out.cell (World.block_lt_of_cell? w _ hw198_10)).trans hw198_10), ((HB.out.cell (World.block_lt_of_cell? w _ hw198_11)).trans hw198_11), ((HB.out.cell (World.block_lt_of_cell? w _ hw198_12)).trans hw198_12), ((HB.out.cell (World.block_lt_of_cell? w _ hw198_13)).trans hw198_13), ((HB.out.cell (World.block_lt_of_cell? w _ hw199_0)).trans hw199_0), ((HB.out.cell (World.block_lt_of_cell? w _ hw199_1)).trans hw199_1), ((HB.out.cell (World.block_lt_of_cell? w _ hw199_2)).trans hw199_2), ((HB.out.cell (World.block_lt_of_cell? w _ hw199_3)).trans hw199_3), ((HB.out.cell (World.block_lt_of_cell? w _ hw199_4)).trans hw199_4), ((HB.out.cell (World.block_lt_of_cell? w _ hw199_5)).trans hw199_5), ((HB.out.cell (World.block_lt_of_cell? w _ hw199_6)).trans hw199_6), ((HB.out.cell (World.block_lt_of_cell? w _ hw199_7)).trans hw199_7), ((HB.out.cell (World.block_lt_of_cell? w _ hw199_8)).trans hw199_8), ((HB.out.cell (World.block_lt_of_cell? w _ hw199_9)).trans hw199_9), ((HB.out.cell (World.block_lt_of_cell? w _ hw199_10)).trans hw199_10), ((HB.out.cell (World.block_lt_of_cell? w _ hw199_11)).trans hw199_11), ((HB.out.cell (World.block_lt_of_cell? w _ hw199_12)).trans hw199_12), ((HB.out.cell (World.block_lt_of_cell? w _ hw199_13)).trans hw199_13)⟩ (fun hHeld => ?_); refine with_tabW terrierref17_Same.tab6 terrierref17_Same.bits6 (fun HT_ HW_ => ?_)
           generalize wr.drew = w13 at HB HR198_1 HR198_2 HR198_8 HR198_9 HR199_1 HR199_2 HR199_8 HR199_9 hx198_0 hx198_1 hx198_10 hx198_11 hx198_12 hx198_13 hx198_2 hx198_3 hx198_4 hx198_5 hx198_6 hx198_7 hx198_8 hx198_9 hx199_0 hx199_1 hx199_10 hx199_11 hx199_12 hx199_13 hx199_2 hx199_3 hx199_4 hx199_5 hx199_6 hx199_7 hx199_8 hx199_9 hHeld ⊢; refine pure_ (i := 0) (N := some 16) (v := ?_) (a' := ?_) zb10_1 rfl rfl (any_of HT_.out (by kernel_rfl)) (fun _ _ _ h => h) (Or.inl ⟨by rfl, ?_⟩) ?_ ?_; rotate_left
           · intro w'; go_simp; with_reducible rfl
           rotate_left
           · simp only [Act.put, Ext.sb, Ext.sz, Ext.ss, i64_w, i32_w]; rfl
           refine pure_ (i := 1) (N := some 17) (v := ?_) (a' := ?_) zb10_2 rfl rfl (any_of HT_.out (by kernel_rfl)) (fun _ _ _ h => h) (Or.inl ⟨by rfl, ?_⟩) ?_ ?_; rotate_left
           · intro w'; go_simp; with_reducible rfl
           rotate_left
           · simp only [Act.put, Ext.sb, Ext.sz, Ext.ss, i64_w, i32_w]; rfl
           refine pure_ (i := 2) (N := some 18) (v := ?_) (a' := ?_) zb10_3 rfl rfl (any_of HT_.out (by kernel_rfl)) (fun _ _ _ h => h) (Or.inl ⟨by rfl, ?_⟩) ?_ ?_; rotate_left
           · intro w'; go_simp; with_reducible rfl
           rotate_left
           · simp only [Act.put, Ext.sb, Ext.sz, Ext.ss, i64_w, i32_w]; rfl
           refine pure_ (i := 3) (N := some 19) (v := ?_) (a' := ?_) zb10_4 rfl rfl (any_of HT_.out (by kernel_rfl)) (fun _ _ _ h => h) (Or.inl ⟨by rfl, ?_⟩) ?_ ?_; rotate_left
           · intro w'; go_simp; with_reducible rfl
           rotate_left
           · simp only [Act.put, Ext.sb, Ext.sz, Ext.ss, i64_w, i32_w]; rfl
           refine pure_ (i := 5) (N := some 21) (v := ?_) (a' := ?_) zb10_5 rfl rfl (any_of HT_.out (by kernel_rfl)) (fun _ _ _ h => h) (Or.inl ⟨by rfl, ?_⟩) ?_ ?_; rotate_left
           · intro w'; go_simp; with_reducible rfl
           rotate_left
           · simp only [Act.put, Ext.sb, Ext.sz, Ext.ss, i64_w, i32_w]; rfl
           refine pure_ (i := 6) (N := some 22) (v := ?_) (a' := ?_) zb10_6 rfl rfl (any_of HT_.out (by kernel_rfl)) (fun _ _ _ h => h) (Or.inl ⟨by rfl, ?_⟩) ?_ ?_; rotate_left
           · intro w'; go_simp; with_reducible rfl
           rotate_left
           · simp only [Act.put, Ext.sb, Ext.sz, Ext.ss, i64_w, i32_w]; rfl
           refine pure_ (i := 7) (N := some 23) (v := ?_) (a' := ?_) zb10_7 rfl rfl (any_of HT_.out (by kernel_rfl)) (fun _ _ _ h => h) (Or.inl ⟨by rfl, ?_⟩) ?_ ?_; rotate_left
           · intro w'; go_simp; with_reducible rfl
           rotate_left
           · simp only [Act.put, Ext.sb, Ext.sz, Ext.ss, i64_w, i32_w]; rfl
           refine pure_ (i := 8) (N := some 24) (v := ?_) (a' := ?_) zb10_8 rfl rfl (any_of HT_.out (by kernel_rfl)) (fun _ _ _ h => h) (Or.inl ⟨by rfl, ?_⟩) ?_ ?_; rotate_left
           · intro w'; go_simp; with_reducible rfl
           rotate_left
           · simp only [Act.put, Ext.sb, Ext.sz, Ext.ss, i64_w, i32_w]; rfl
           refine take_ (i := 4) (N := some 20) (v := ?_) (a' := ?_) zb10_9 rfl rfl (take_ofW HT_.out HW_.out (by kernel_rfl)) (fun _ _ _ h => h) (Or.inl ⟨by rfl, ?_⟩) hHeld ?_ ?_; rotate_left
           · rintro w' ⟨s0, s1, s2, s3, s4, s5, s6, s7, s8, s9, s10, s11, s12, s13, s14, s15, s16, s17, s18, s19, s20, s21, s22, s23, s24, s25, s26, s27⟩; go_simp; with_reducible rfl
           rotate_left
           · simp only [Act.put, Ext.sb, Ext.sz, Ext.ss, i64_w, i32_w]; rfl
           refine take_ (i := 9) (N := some 25) (v := ?_) (a' := ?_) zb10_10 rfl rfl (take_ofW HT_.out HW_.out (by kernel_rfl)) (fun _ _ _ h => h) (Or.inl ⟨by rfl, ?_⟩) hHeld ?_ ?_; rotate_left
           · rintro w' ⟨s0, s1, s2, s3, s4, s5, s6, s7, s8, s9, s10, s11, s12, s13, s14, s15, s16, s17, s18, s19, s20, s21, s22, s23, s24, s25, s26, s27⟩; go_simp; with_reducible rfl
           rotate_left
           · simp only [Act.put, Ext.sb, Ext.sz, Ext.ss, i64_w, i32_w]; rfl
           refine pure_ (i := 10) (N := some 26) (v := ?_) (a' := ?_) zb10_11 rfl rfl (any_of HT_.out (by kernel_rfl)) (fun _ _ _ h => h) (Or.inl ⟨by rfl, ?_⟩) ?_ ?_; rotate_left
           · intro w'; go_simp; with_reducible rfl
           rotate_left
           · simp only [Act.put, Ext.sb, Ext.sz, Ext.ss, i64_w, i32_w]; rfl
           refine pure_ (i := 11) (N := some 27) (v := ?_) (a' := ?_) zb10_12 rfl rfl (any_of HT_.out (by kernel_rfl)) (fun _ _ _ h => h) (Or.inl ⟨by rfl, ?_⟩) ?_ ?_; rotate_left
           · intro w'; go_simp; with_reducible rfl
           rotate_left
           · simp only [Act.put, Ext.sb, Ext.sz, Ext.ss, i64_w, i32_w]; rfl
           refine pure_ (i := 12) (N := some 28) (v := ?_) (a' := ?_) zb10_13 rfl rfl (any_of HT_.out (by kernel_rfl)) (fun _ _ _ h => h) (Or.inl ⟨by rfl, ?_⟩) ?_ ?_; rotate_left
           · intro w'; go_simp; with_reducible rfl
           rotate_left
           · simp only [Act.put, Ext.sb, Ext.sz, Ext.ss, i64_w, i32_w]; rfl
           refine pure_ (i := 13) (N := some 29) (v := ?_) (a' := ?_) zb10_14 rfl rfl (any_of HT_.out (by kernel_rfl)) (fun _ _ _ h => h) (Or.inl ⟨by rfl, ?_⟩) ?_ ?_; rotate_left
           · intro w'; go_simp; with_reducible rfl
           rotate_left
           · simp only [Act.put, Ext.sb, Ext.sz, Ext.ss, i64_w, i32_w]; rfl
           refine pure_ (i := 14) (N := some 30) (v := ?_) (a' := ?_) zb10_15 rfl rfl (any_of HT_.out (by kernel_rfl)) (fun _ _ _ h => h) (Or.inl ⟨by rfl, ?_⟩) ?_ ?_; rotate_left
           · intro w'; go_simp; with_reducible rfl
           rotate_left
           · simp only [Act.put, Ext.sb, Ext.sz, Ext.ss, i64_w, i32_w]; rfl
           refine pure_ (i := 15) (N := some 31) (v := ?_) (a' := ?_) zb10_16 rfl rfl (any_of HT_.out (by kernel_rfl)) (fun _ _ _ h => h) (Or.inl ⟨by rfl, ?_⟩) ?_ ?_; rotate_left
           · intro w'; go_simp; with_reducible rfl
           rotate_left
           · simp only [Act.put, Ext.sb, Ext.sz, Ext.ss, i64_w, i32_w]; rfl
           refine pure_ (i := 17) (N := some 33) (v := ?_) (a' := ?_) zb10_41 rfl rfl (any_of HT_.out (by kernel_rfl)) (fun _ _ _ h => h) (Or.inl ⟨by rfl, ?_⟩) ?_ ?_; rotate_left
           · intro w'; go_simp; with_reducible rfl
           rotate_left
           · simp only [Act.put, Ext.sb, Ext.sz, Ext.ss, i64_w, i32_w]; rfl
           refine pure_ (i := 18) (N := some 34) (v := ?_) (a' := ?_) zb10_42 rfl rfl (any_of HT_.out (by kernel_rfl)) (fun _ _ _ h => h) (Or.inl ⟨by rfl, ?_⟩) ?_ ?_; rotate_left
           · intro w'; go_simp; with_reducible rfl
           rotate_left
           · simp only [Act.put, Ext.sb, Ext.sz, Ext.ss, i64_w, i32_w]; rfl
           refine pure_ (i := 19) (N := some 35) (v := ?_) (a' := ?_) zb10_43 rfl rfl (any_of HT_.out (by kernel_rfl)) (fun _ _ _ h => h) (Or.inl ⟨by rfl, ?_⟩) ?_ ?_; rotate_left
           · intro w'; go_simp; with_reducible rfl
           rotate_left
           · simp only [Act.put, Ext.sb, Ext.sz, Ext.ss, i64_w, i32_w]; rfl
           refine pure_ (i := 20) (N := some 36) (v := ?_) (a' := ?_) zb10_44 rfl rfl (any_of HT_.out (by kernel_rfl)) (fun _ _ _ h => h) (Or.inl ⟨by rfl, ?_⟩) ?_ ?_; rotate_left
           · intro w'; go_simp; with_reducible rfl
           rotate_left
           · simp only [Act.put, Ext.sb, Ext.sz, Ext.ss, i64_w, i32_w]; rfl
           refine take_ (i := 16) (N := some 32) (v := ?_) (a' := ?_) zb10_17 rfl rfl (take_ofW HT_.out HW_.out (by kernel_rfl)) (fun _ _ _ h => h) (Or.inl ⟨by rfl, ?_⟩) hHeld ?_ ?_; rotate_left
           · rintro w' ⟨s0, s1, s2, s3, s4, s5, s6, s7, s8, s9, s10, s11, s12, s13, s14, s15, s16, s17, s18, s19, s20, s21, s22, s23, s24, s25, s26, s27⟩; go_simp; with_reducible rfl
           rotate_left
           · simp only [Act.put, Ext.sb, Ext.sz, Ext.ss, i64_w, i32_w]; rfl
           refine take_ (i := 21) (N := some 37) (v := ?_) (a' := ?_) zb10_18 rfl rfl (take_ofW HT_.out HW_.out (by kernel_rfl)) (fun _ _ _ h => h) (Or.inl ⟨by rfl, ?_⟩) hHeld ?_ ?_; rotate_left
           · rintro w' ⟨s0, s1, s2, s3, s4, s5, s6, s7, s8, s9, s10, s11, s12, s13, s14, s15, s16, s17, s18, s19, s20, s21, s22, s23, s24, s25, s26, s27⟩; go_simp; with_reducible rfl
           rotate_left
           · simp only [Act.put, Ext.sb, Ext.sz, Ext.ss, i64_w, i32_w]; rfl
           refine pure_ (i := 22) (N := some 38) (v := ?_) (a' := ?_) zb10_19 rfl rfl (any_of HT_.out (by kernel_rfl)) (fun _ _ _ h => h) (Or.inl ⟨by rfl, ?_⟩) ?_ ?_; rotate_left
           · intro w'; go_simp; with_reducible rfl
           rotate_left
           · simp only [Act.put, Ext.sb, Ext.sz, Ext.ss, i64_w, i32_w]; rfl
           refine pure_ (i := 23) (N := some 39) (v := ?_) (a' := ?_) zb10_20 rfl rfl (any_of HT_.out (by kernel_rfl)) (fun _ _ _ h => h) (Or.inl ⟨by rfl, ?_⟩) ?_ ?_; rotate_left
           · intro w'; go_simp; with_reducible rfl
           rotate_left
           · simp only [Act.put, Ext.sb, Ext.sz, Ext.ss, i64_w, i32_w]; rfl
           refine pure_ (i := 24) (N := some 40) (v := ?_) (a' := ?_) zb10_21 rfl rfl (any_of HT_.out (by kernel_rfl)) (fun _ _ _ h => h) (Or.inl ⟨by rfl, ?_⟩) ?_ ?_; rotate_left
           · intro w'; go_simp; with_reducible rfl
           rotate_left
           · simp only [Act.put, Ext.sb, Ext.sz, Ext.ss, i64_w, i32_w]; rfl
           refine pure_ (i := 25) (N := some 41) (v := undef) (a' := ?_) zb10_22 rfl rfl (any_of HT_.out (by kernel_rfl)) (fun _ _ _ h => h) (Or.inr ⟨by rfl, rfl⟩) ?_ ?_; rotate_left
           · simp only [Act.put, Ext.sb, Ext.sz, Ext.ss, i64_w, i32_w]; rfl
           refine pure_ (i := 26) (N := some 42) (v := undef) (a' := ?_) zb10_23 rfl rfl (any_of HT_.out (by kernel_rfl)) (fun _ _ _ h => h) (Or.inr ⟨by rfl, rfl⟩) ?_ ?_; rotate_left
           · simp only [Act.put, Ext.sb, Ext.sz, Ext.ss, i64_w, i32_w]; rfl
           refine pure_ (i := 27) (N := some 43) (v := undef) (a' := ?_) zb10_24 rfl rfl (any_of HT_.out (by kernel_rfl)) (fun _ _ _ h => h) (Or.inr ⟨by rfl, rfl⟩) ?_ ?_; rotate_left
           · simp only [Act.put, Ext.sb, Ext.sz, Ext.ss, i64_w, i32_w]; rfl
           refine pure_ (i := 28) (N := some 44) (v := undef) (a' := ?_) zb10_25 rfl rfl (any_of HT_.out (by kernel_rfl)) (fun _ _ _ h => h) (Or.inr ⟨by rfl, rfl⟩) ?_ ?_; rotate_left
           · simp only [Act.put, Ext.sb, Ext.sz, Ext.ss, i64_w, i32_w]; rfl
           refine pure_ (i := 29) (N := some 45) (v := undef) (a' := ?_) zb10_49 rfl rfl (any_of HT_.out (by kernel_rfl)) (fun _ _ _ h => h) (Or.inr ⟨by rfl, rfl⟩) ?_ ?_; rotate_left
           · simp only [Act.put, Ext.sb, Ext.sz, Ext.ss, i64_w, i32_w]; rfl
           refine pure_ (i := 30) (N := some 46) (v := undef) (a' := ?_) zb10_51 rfl rfl (any_of HT_.out (by kernel_rfl)) (fun _ _ _ h => h) (Or.inr ⟨by rfl, rfl⟩) ?_ ?_; rotate_left
           · simp only [Act.put, Ext.sb, Ext.sz, Ext.ss, i64_w, i32_w]; rfl
           refine pure_ (i := 31) (N := some 47) (v := undef) (a' := ?_) zb10_53 rfl rfl (any_of HT_.out (by kernel_rfl)) (fun _ _ _ h => h) (Or.inr ⟨by rfl, rfl⟩) ?_ ?_; rotate_left
           · simp only [Act.put, Ext.sb, Ext.sz, Ext.ss, i64_w, i32_w]; rfl
           refine pure_ (i := 32) (N := some 48) (v := undef) (a' := ?_) zb10_55 rfl rfl (any_of HT_.out (by kernel_rfl)) (fun _ _ _ h => h) (Or.inr ⟨by rfl, rfl⟩) ?_ ?_; rotate_left
           · simp only [Act.put, Ext.sb, Ext.sz, Ext.ss, i64_w, i32_w]; rfl
           refine pure_ (i := 33) (N := some 49) (v := undef) (a' := ?_) zb10_26 rfl rfl (any_of HT_.out (by kernel_rfl)) (fun _ _ _ h => h) (Or.inr ⟨by rfl, rfl⟩) ?_ ?_; rotate_left
           · simp only [Act.put, Ext.sb, Ext.sz, Ext.ss, i64_w, i32_w]; rfl
           refine pure_ (i := 34) (N := some 50) (v := undef) (a' := ?_) zb10_27 rfl rfl (any_of HT_.out (by kernel_rfl)) (fun _ _ _ h => h) (Or.inr ⟨by rfl, rfl⟩) ?_ ?_; rotate_left
           · simp only [Act.put, Ext.sb, Ext.sz, Ext.ss, i64_w, i32_w]; rfl
           refine pure_ (i := 35) (N := some 51) (v := undef) (a' := ?_) zb10_28 rfl rfl (any_of HT_.out (by kernel_rfl)) (fun _ _ _ h => h) (Or.inr ⟨by rfl, rfl⟩) ?_ ?_; rotate_left
           · simp only [Act.put, Ext.sb, Ext.sz, Ext.ss, i64_w, i32_w]; rfl
           refine pure_ (i := 36) (N := some 52) (v := undef) (a' := ?_) zb10_29 rfl rfl (any_of HT_.out (by kernel_rfl)) (fun _ _ _ h => h) (Or.inr ⟨by rfl, rfl⟩) ?_ ?_; rotate_left
           · simp only [Act.put, Ext.sb, Ext.sz, Ext.ss, i64_w, i32_w]; rfl
           refine pure_ (i := 37) (N := some 53) (v := ?_) (a' := ?_) zb10_30 rfl rfl (any_of HT_.out (by kernel_rfl)) (fun _ _ _ h => h) (Or.inl ⟨by rfl, ?_⟩) ?_ ?_; rotate_left
           · intro w'; go_simp; with_reducible rfl
           rotate_left
           · simp only [Act.put, Ext.sb, Ext.sz, Ext.ss, i64_w, i32_w]; rfl
           refine pure_ (i := 38) (N := some 54) (v := ?_) (a' := ?_) zb10_31 rfl rfl (any_of HT_.out (by kernel_rfl)) (fun _ _ _ h => h) (Or.inl ⟨by rfl, ?_⟩) ?_ ?_; rotate_left
           · intro w'; go_simp; with_reducible rfl
           rotate_left
           · simp only [Act.put, Ext.sb, Ext.sz, Ext.ss, i64_w, i32_w]; rfl
           refine pure_ (i := 39) (N := some 55) (v := undef) (a' := ?_) zb10_32 rfl rfl (any_of HT_.out (by kernel_rfl)) (fun _ _ _ h => h) (Or.inr ⟨by rfl, rfl⟩) ?_ ?_; rotate_left
           · simp only [Act.put, Ext.sb, Ext.sz, Ext.ss, i64_w, i32_w]; rfl
           refine pure_ (i := 40) (N := some 56) (v := undef) (a' := ?_) zb10_33 rfl rfl (any_of HT_.out (by kernel_rfl)) (fun _ _ _ h => h) (Or.inr ⟨by rfl, rfl⟩) ?_ ?_; rotate_left
           · simp only [Act.put, Ext.sb, Ext.sz, Ext.ss, i64_w, i32_w]; rfl
           refine pure_ (i := 41) (N := some 57) (v := undef) (a' := ?_) zb10_34 rfl rfl (any_of HT_.out (by kernel_rfl)) (fun _ _ _ h => h) (Or.inr ⟨by rfl, rfl⟩) ?_ ?_; rotate_left
           · simp only [Act.put, Ext.sb, Ext.sz, Ext.ss, i64_w, i32_w]; rfl
           refine pure_ (i := 42) (N := some 58) (v := undef) (a' := ?_) zb10_35 rfl rfl (any_of HT_.out (by kernel_rfl)) (fun _ _ _ h => h) (Or.inr ⟨by rfl, rfl⟩) ?_ ?_; rotate_left
           · simp only [Act.put, Ext.sb, Ext.sz, Ext.ss, i64_w, i32_w]; rfl
           refine pure_ (i := 43) (N := some 59) (v := undef) (a' := ?_) zb10_45 rfl rfl (any_of HT_.out (by kernel_rfl)) (fun _ _ _ h => h) (Or.inr ⟨by rfl, rfl⟩) ?_ ?_; rotate_left
           · simp only [Act.put, Ext.sb, Ext.sz, Ext.ss, i64_w, i32_w]; rfl
           refine pure_ (i := 44) (N := some 60) (v := undef) (a' := ?_) zb10_46 rfl rfl (any_of HT_.out (by kernel_rfl)) (fun _ _ _ h => h) (Or.inr ⟨by rfl, rfl⟩) ?_ ?_; rotate_left
           · simp only [Act.put, Ext.sb, Ext.sz, Ext.ss, i64_w, i32_w]; rfl
           refine pure_ (i := 45) (N := some 61) (v := undef) (a' := ?_) zb10_47 rfl rfl (any_of HT_.out (by kernel_rfl)) (fun _ _ _ h => h) (Or.inr ⟨by rfl, rfl⟩) ?_ ?_; rotate_left
           · simp only [Act.put, Ext.sb, Ext.sz, Ext.ss, i64_w, i32_w]; rfl
           refine pure_ (i := 46) (N := some 62) (v := undef) (a' := ?_) zb10_48 rfl rfl (any_of HT_.out (by kernel_rfl)) (fun _ _ _ h => h) (Or.inr ⟨by rfl, rfl⟩) ?_ ?_; rotate_left
           · simp only [Act.put, Ext.sb, Ext.sz, Ext.ss, i64_w, i32_w]; rfl
           refine pure_ (i := 47) (N := some 63) (v := undef) (a' := ?_) zb10_36 rfl rfl (any_of HT_.out (by kernel_rfl)) (fun _ _ _ h => h) (Or.inr ⟨by rfl, rfl⟩) ?_ ?_; rotate_left
           · simp only [Act.put, Ext.sb, Ext.sz, Ext.ss, i64_w, i32_w]; rfl
           refine pure_ (i := 48) (N := some 64) (v := undef) (a' := ?_) zb10_37 rfl rfl (any_of HT_.out (by kernel_rfl)) (fun _ _ _ h => h) (Or.inr ⟨by rfl, rfl⟩) ?_ ?_; rotate_left
           · simp only [Act.put, Ext.sb, Ext.sz, Ext.ss, i64_w, i32_w]; rfl
           refine pure_ (i := 49) (N := some 65) (v := undef) (a' := ?_) zb10_38 rfl rfl (any_of HT_.out (by kernel_rfl)) (fun _ _ _ h => h) (Or.inr ⟨by rfl, rfl⟩) ?_ ?_; rotate_left
           · simp only [Act.put, Ext.sb, Ext.sz, Ext.ss, i64_w, i32_w]; rfl
           refine pure_ (i := 50) (N := some 66) (v := undef) (a' := ?_) zb10_39 rfl rfl (any_of HT_.out (by kernel_rfl)) (fun _ _ _ h => h) (Or.inr ⟨by rfl, rfl⟩) ?_ ?_; rotate_left
           · simp only [Act.put, Ext.sb, Ext.sz, Ext.ss, i64_w, i32_w]; rfl
           refine pure_ (i := 51) (N := some 67) (v := ?_) (a' := ?_) zb10_40 rfl rfl (any_of HT_.out (by kernel_rfl)) (fun _ _ _ h => h) (Or.inl ⟨by rfl, ?_⟩) ?_ ?_; rotate_left
           · intro w'; go_simp; with_reducible rfl
           rotate_left
           · simp only [Act.put, Ext.sb, Ext.sz, Ext.ss, i64_w, i32_w]; rfl
           refine done_ (done_of HT_.out (by kernel_rfl)) ?_
           try go_wp2
           go_meet
           case rel => exact ⟨_, (true), (by first | rfl | (simp; done) | (simp [*]; done)), H', ⟨by have := HK1.out; first | omega | exact Nat.le_refl _⟩, ⟨by exact Ext.nB HB.out⟩⟩
          ·
           rw [if_neg c12] at H
           have c12b0 : (((rd_T38 l0 x13_1).f2) != ((rd_T38 l1 x13_1).f2)) = false := by simpa using c12
           (try (have c12b1 : decide (((rd_T38 l0 x13_1).f2) = ((rd_T38 l1 x13_1).f2)) = true := by simpa using c12)); (try (have c12b2 : (((rd_T38 l0 x13_1).f2) == ((rd_T38 l1 x13_1).f2)) = true := by simpa using c12)); clear c12; replace H := Option.bind_eq_some_iff.mp H; obtain ⟨t204, A160, H⟩ := H; (try dsimp only at H); have A16 := Aside0.mk A160; clear A160
           by_cases c17 : t204 = true
           ·
            subst c17; rw [if_pos rfl] at H; replace H := Option.bind_eq_some_iff.mp H; obtain ⟨t207, A200, H⟩ := H; (try dsimp only at H); have A20 := Aside0.mk A200; clear A200; have H' := Aside0.mk H; clear H
            try go_wp2
            replace HB := Ext.a (below_drew1 HB.out); have p198 : 0 ≤ (x13_1 : Int) := of_decide_eq_true (by first | (with_reducible assumption) | assumption); have q198 : x13_1 < (l0.length : Int) := of_decide_eq_true (by first | (with_reducible assumption) | assumption); obtain ⟨ad198, A198_1, c198_1, A198_2, c198_2, A198_8, c198_8, A198_9, c198_9, e198, hx198_0, hx198_1, hx198_2, hx198_3, hx198_4, hx198_5, hx198_6, hx198_7, hx198_8, hx198_9, hx198_10, hx198_11, hx198_12, hx198_13, hl198_1, hi198_1, hl198_2, hi198_2, hl198_8, hi198_8, hl198_9, hi198_9⟩ := at_T38 HR0.out x13_1 p198 q198; have hw198_13 := hx198_13; have hw198_12 := hx198_12; have hw198_11 := hx198_11; have hw198_10 := hx198_10; have hw198_9 := hx198_9; have hw198_8 := hx198_8; have hw198_7 := hx198_7; have hw198_6 := hx198_6; have hw198_5 := hx198_5; have hw198_4 := hx198_4; have hw198_3 := hx198_3; have hw198_2 := hx198_2; have hw198_1 := hx198_1; have hw198_0 := hx198_0; cases e198; replace hx198_0 := (HB.out.cell (World.block_lt_of_cell? w _ hx198_0)).trans hx198_0; replace hx198_1 := (HB.out.cell (World.block_lt_of_cell? w _ hx198_1)).trans hx198_1; replace hx198_2 := (HB.out.cell (World.block_lt_of_cell? w _ hx198_2)).trans hx198_2; replace hx198_3 := (HB.out.cell (World.block_lt_of_cell? w _ hx198_3)).trans hx198_3; replace hx198_4 := (HB.out.cell (World.block_lt_of_cell? w _ hx198_4)).trans hx198_4; replace hx198_5 := (HB.out.cell (World.block_lt_of_cell? w _ hx198_5)).trans hx198_5; replace hx198_6 := (HB.out.cell (World.block_lt_of_cell? w _ hx198_6)).trans hx198_6
            replace hx198_7 := (HB.out.cell (World.block_lt_of_cell? w _ hx198_7)).trans hx198_7; replace hx198_8 := (HB.out.cell (World.block_lt_of_cell? w _ hx198_8)).trans hx198_8; replace hx198_9 := (HB.out.cell (World.block_lt_of_cell? w _ hx198_9)).trans hx198_9; replace hx198_10 := (HB.out.cell (World.block_lt_of_cell? w _ hx198_10)).trans hx198_10; replace hx198_11 := (HB.out.cell (World.block_lt_of_cell? w _ hx198_11)).trans hx198_11; replace hx198_12 := (HB.out.cell (World.block_lt_of_cell? w _ hx198_12)).trans hx198_12; replace hx198_13 := (HB.out.cell (World.block_lt_of_cell? w _ hx198_13)).trans hx198_13; have HR198_1 := Aside0.mk hi198_1; have HC198_1 := Aside0.mk hl198_1; clear hi198_1 hl198_1; have HR198_2 := Aside0.mk hi198_2; have HC198_2 := Aside0.mk hl198_2; clear hi198_2 hl198_2; have HR198_8 := Aside0.mk hi198_8; have HC198_8 := Aside0.mk hl198_8; clear hi198_8 hl198_8; have HR198_9 := Aside0.mk hi198_9; have HC198_9 := Aside0.mk hl198_9; clear hi198_9 hl198_9; replace p198 := eq_true p198; replace q198 := eq_true q198; have p199 : 0 ≤ (x13_1 : Int) := of_decide_eq_true (by first | (with_reducible assumption) | assumption); have q199 : x13_1 < (l1.length : Int) := of_decide_eq_true (by first | (with_reducible assumption) | assumption); obtain ⟨ad199, A199_1, c199_1, A199_2, c199_2, A199_8, c199_8, A199_9, c199_9, e199, hx199_0, hx199_1, hx199_2, hx199_3, hx199_4, hx199_5, hx199_6, hx199_7, hx199_8, hx199_9, hx199_10, hx199_11, hx199_12, hx199_13, hl199_1, hi199_1, hl199_2, hi199_2, hl199_8, hi199_8, hl199_9, hi199_9⟩ := at_T38 HR1.out x13_1 p199 q199
            have hw199_13 := hx199_13; have hw199_12 := hx199_12; have hw199_11 := hx199_11; have hw199_10 := hx199_10; have hw199_9 := hx199_9; have hw199_8 := hx199_8; have hw199_7 := hx199_7; have hw199_6 := hx199_6; have hw199_5 := hx199_5; have hw199_4 := hx199_4; have hw199_3 := hx199_3; have hw199_2 := hx199_2; have hw199_1 := hx199_1; have hw199_0 := hx199_0; cases e199; replace hx199_0 := (HB.out.cell (World.block_lt_of_cell? w _ hx199_0)).trans hx199_0; replace hx199_1 := (HB.out.cell (World.block_lt_of_cell? w _ hx199_1)).trans hx199_1; replace hx199_2 := (HB.out.cell (World.block_lt_of_cell? w _ hx199_2)).trans hx199_2; replace hx199_3 := (HB.out.cell (World.block_lt_of_cell? w _ hx199_3)).trans hx199_3; replace hx199_4 := (HB.out.cell (World.block_lt_of_cell? w _ hx199_4)).trans hx199_4; replace hx199_5 := (HB.out.cell (World.block_lt_of_cell? w _ hx199_5)).trans hx199_5; replace hx199_6 := (HB.out.cell (World.block_lt_of_cell? w _ hx199_6)).trans hx199_6; replace hx199_7 := (HB.out.cell (World.block_lt_of_cell? w _ hx199_7)).trans hx199_7; replace hx199_8 := (HB.out.cell (World.block_lt_of_cell? w _ hx199_8)).trans hx199_8; replace hx199_9 := (HB.out.cell (World.block_lt_of_cell? w _ hx199_9)).trans hx199_9; replace hx199_10 := (HB.out.cell (World.block_lt_of_cell? w _ hx199_10)).trans hx199_10; replace hx199_11 := (HB.out.cell (World.block_lt_of_cell? w _ hx199_11)).trans hx199_11; replace hx199_12 := (HB.out.cell (World.block_lt_of_cell? w _ hx199_12)).trans hx199_12
            replace hx199_13 := (HB.out.cell (World.block_lt_of_cell? w _ hx199_13)).trans hx199_13; have HR199_1 := Aside0.mk hi199_1; have HC199_1 := Aside0.mk hl199_1; clear hi199_1 hl199_1; have HR199_2 := Aside0.mk hi199_2; have HC199_2 := Aside0.mk hl199_2; clear hi199_2 hl199_2; have HR199_8 := Aside0.mk hi199_8; have HC199_8 := Aside0.mk hl199_8; clear hi199_8 hl199_8; have HR199_9 := Aside0.mk hi199_9; have HC199_9 := Aside0.mk hl199_9; clear hi199_9 hl199_9; replace p199 := eq_true p199; replace q199 := eq_true q199; have p10 : 0 ≤ (x13_1 : Int) := of_decide_eq_true (by first | (with_reducible assumption) | assumption); have q10 : (x13_1 : Int) < ((l0.length : Int) : Int) := of_decide_eq_true (by first | (with_reducible assumption) | assumption); replace p10 := eq_true p10; replace q10 := eq_true q10; have p11 : 0 ≤ (x13_1 : Int) := of_decide_eq_true (by first | (with_reducible assumption) | assumption); have q11 : (x13_1 : Int) < ((l1.length : Int) : Int) := of_decide_eq_true (by first | (with_reducible assumption) | assumption); replace p11 := eq_true p11; replace q11 := eq_true q11; have p14 : 0 ≤ (x13_1 : Int) := of_decide_eq_true (by first | (with_reducible assumption) | assumption); have q14 : (x13_1 : Int) < ((l0.length : Int) : Int) := of_decide_eq_true (by first | (with_reducible assumption) | assumption); replace p14 := eq_true p14; replace q14 := eq_true q14; have p15 : 0 ≤ (x13_1 : Int) := of_decide_eq_true (by first | (with_reducible assumption) | assumption)
            have q15 : (x13_1 : Int) < ((l1.length : Int) : Int) := of_decide_eq_true (by first | (with_reducible assumption) | assumption); replace p15 := eq_true p15; replace q15 := eq_true q15; refine start_ (n := 52) (S := fun w' => w'.cell? (ad198.add ((x13_1).toNat * 14)) = some (.int .i64 ((rd_T38 l0 x13_1).f0)) ∧ w'.cell? ⟨(ad198.add ((x13_1).toNat * 14)).block, (ad198.add ((x13_1).toNat * 14)).off + 1, none⟩ = some (.slice A198_1 ((rd_T38 l0 x13_1).f1.f0).length c198_1) ∧ w'.cell? ⟨(ad198.add ((x13_1).toNat * 14)).block, (ad198.add ((x13_1).toNat * 14)).off + 2, none⟩ = some (.slice A198_2 ((rd_T38 l0 x13_1).f1.f1).length c198_2) ∧ w'.cell? ⟨(ad198.add ((x13_1).toNat * 14)).block, (ad198.add ((x13_1).toNat * 14)).off + 3, none⟩ = some (.int .i64 ((rd_T38 l0 x13_1).f1.f2)) ∧ w'.cell? ⟨(ad198.add ((x13_1).toNat * 14)).block, (ad198.add ((x13_1).toNat * 14)).off + 4, none⟩ = some (.int .i64 ((rd_T38 l0 x13_1).f1.f3)) ∧ w'.cell? ⟨(ad198.add ((x13_1).toNat * 14)).block, (ad198.add ((x13_1).toNat * 14)).off + 5, none⟩ = some (.int .i64 ((rd_T38 l0 x13_1).f1.f4)) ∧ w'.cell? ⟨(ad198.add ((x13_1).toNat * 14)).block, (ad198.add ((x13_1).toNat * 14)).off + 6, none⟩ = some (.int .i64 ((rd_T38 l0 x13_1).f1.f5)) ∧ w'.cell? ⟨(ad198.add ((x13_1).toNat * 14)).block, (ad198.add ((x13_1).toNat * 14)).off + 7, none⟩ = some (.bool ((rd_T38 l0 x13_1).f2)) ∧ w'.cell? ⟨(ad198.add ((x13_1).toNat * 14)).block, (ad198.add ((x13_1).toNat * 14)).off + 8, none⟩ = some (.slice A198_8 ((rd_T38 l0 x13_1).f3.f0).length c198_8) ∧ w'.cell? ⟨(ad198.add ((x13_1).toNat * 14)).block, (ad198.add ((x13_1).toNat * 14)).off + 9, none⟩ = some (.slice A198_9 ((rd_T38 l0 x13_1).f3.f1).length c198_9) ∧ w'.cell? ⟨(ad198.add ((x13_1).toNat * 14)).block, (ad198.add ((x13_1).toNat * 14)).off + 10, none⟩ = some (.int .i64 ((rd_T38 l0 x13_1).f3.f2)) ∧ w'.cell? ⟨(ad198.add ((x13_1).toNat * 14)).block, (ad198.add ((x13_1).toNat * 14)).off + 11, none⟩ = some (.int .i64 ((rd_T38 l0 x13_1).f3.f3)) ∧ w'.cell? ⟨(ad198.add ((x13_1).toNat * 14)).block, (ad198.add ((x13_1).toNat * 14)).off + 12, none⟩ = some (.int .i64 ((rd_T38 l0 x13_1).f3.f4)) ∧ w'.cell? ⟨(ad198.add ((x13_1).toNat * 14)).block, (ad198.add ((x13_1).toNat * 14)).off + 13, none⟩ = some (.int .i64 ((rd_T38 l0 x13_1).f3.f5)) ∧ w'.cell? (ad199.add ((x13_1).toNat * 14)) = some (.int .i64 ((rd_T38 l1 x13_1).f0)) ∧ w'.cell? ⟨(ad199.add ((x13_1).toNat * 14)).block, (ad199.add ((x13_1).toNat * 14)).off + 1, none⟩ = some (.slice A199_1 ((rd_T38 l1 x13_1).f1.f0).length c199_1) ∧ w'.cell? ⟨(ad199.add ((x13_1).toNat * 14)).block, (ad199.add ((x13_1).toNat * 14)).off + 2, none⟩ = some (.slice A199_2 ((rd_T38 l1 x13_1).f1.f1).length c199_2) ∧ w'.cell? ⟨(ad199.add ((x13_1).toNat * 14)).block, (ad199.add ((x13_1).toNat * 14)).off + 3, none⟩ = some (.int .i64 ((rd_T38 l1 x13_1).f1.f2)) ∧ w'.cell? ⟨(ad199.add ((x13_1).toNat * 14)).block, (ad199.add ((x13_1).toNat * 14)).off + 4, none⟩ = some (.int .i64 ((rd_T38 l1 x13_1).f1.f3)) ∧ w'.cell? ⟨(ad199.add ((x13_1).toNat * 14)).block, (ad199.add ((x13_1).toNat * 14)).off + 5, none⟩ = some (.int .i64 ((rd_T38 l1 x13_1).f1.f4)) ∧ w'.cell? ⟨(ad199.add ((x13_1).toNat * 14)).block, (ad199.add ((x13_1).toNat * 14)).off + 6, none⟩ = some (.int .i64 ((rd_T38 l1 x13_1).f1.f5)) ∧ w'.cell? ⟨(ad199.add ((x13_1).toNat * 14)).block, (ad199.add ((x13_1).toNat * 14)).off + 7, none⟩ = some (.bool ((rd_T38 l1 x13_1).f2)) ∧ w'.cell? ⟨(ad199.add ((x13_1).toNat * 14)).block, (ad199.add ((x13_1).toNat * 14)).off + 8, none⟩ = some (.slice A199_8 ((rd_T38 l1 x13_1).f3.f0).length c199_8) ∧ w'.cell? ⟨(ad199.add ((x13_1).toNat * 14)).block, (ad199.add ((x13_1).toNat * 14)).off + 9, none⟩ = some (.slice A199_9 ((rd_T38 l1 x13_1).f3.f1).length c199_9) ∧ w'.cell? ⟨(ad199.add ((x13_1).toNat * 14)).block, (ad199.add ((x13_1).toNat * 14)).off + 10, none⟩ = some (.int .i64 ((rd_T38 l1 x13_1).f3.f2)) ∧ w'.cell? ⟨(ad199.add ((x13_1).toNat * 14)).block, (ad199.add ((x13_1).toNat * 14)).off + 11, none⟩ = some (.int .i64 ((rd_T38 l1 x13_1).f3.f3)) ∧ w'.cell? ⟨(ad199.add ((x13_1).toNat * 14)).block, (ad199.add ((x13_1).toNat * 14)).off + 12, none⟩ = some (.int .i64 ((rd_T38 l1 x13_1).f3.f4)) ∧ w'.cell? ⟨(ad199.add ((x13_1).toNat * 14)).block, (ad199.add ((x13_1).toNat * 14)).off + 13, none⟩ = some (.int .i64 ((rd_T38 l1 x13_1).f3.f5))) (ds := []) zb10_0 (by kernel_rfl) rfl rfl ⟨((HB.out.cell (World.block_lt_of_cell? w _ hw198_0)).trans hw198_0), ((HB.out.cell (World.block_lt_of_cell? w _ hw198_1)).trans hw198_1), ((HB.out.cell (World.block_lt_of_cell? w _ hw198_2)).trans hw198_2), ((HB.out.cell (World.block_lt_of_cell? w _ hw198_3)).trans hw198_3), ((HB.out.cell (World.block_lt_of_cell? w _ hw198_4)).trans hw198_4), ((HB.out.cell (World.block_lt_of_cell? w _ hw198_5)).trans hw198_5), ((HB.out.cell (World.block_lt_of_cell? w _ hw198_6)).trans hw198_6), ((HB.out.cell (World.block_lt_of_cell? w _ hw198_7)).trans hw198_7), ((HB.out.cell (World.block_lt_of_cell? w _ hw198_8)).trans hw198_8), ((HB.out.cell (World.block_lt_of_cell? w _ hw198_9)).trans hw198_9), ((HB.out.cell (World.block_lt_of_cell? w _ hw198_10)).trans hw198_10), ((HB.out.cell (World.block_lt_of_cell? w _ hw198_11)).trans hw198_11), ((HB.out.cell (World.block_lt_of_cell? w _ hw198_12)).trans hw198_12), ((HB.out.cell (World.block_lt_of_cell? w _ hw198_13)).trans hw198_13), ((HB.out.cell (World.block_lt_of_cell? w _ hw199_0)).trans hw199_0), ((HB.out.cell (World.block_lt_of_cell? w _ hw199_1)).trans hw199_1), ((HB.out.cell (World.block_lt_of_cell? w _ hw199_2)).trans hw199_2), ((HB.out.cell (World.block_lt_of_cell? w _ hw199_3)).trans hw199_3), ((HB.out.cell (World.block_lt_of_cell? w _ hw199_4)).trans hw199_4), ((HB.out.cell (World.block_lt_of_cell? w _ hw199_5)).trans hw199_5), ((HB.out.cell (World.block_lt_of_cell? w _ hw199_6)).trans hw199_6), ((HB.out.cell (World.block_lt_of_cell? w _ hw199_7)).trans hw199_7), ((HB.out.cell (World.block_lt_of_cell? w _ hw199_8)).trans hw199_8), ((HB.out.cell (World.block_lt_of_cell? w _ hw199_9)).trans hw199_9), ((HB.out.cell (World.block_lt_of_cell? w _ hw199_10)).trans hw199_10), ((HB.out.cell (World.block_lt_of_cell? w _ hw199_11)).trans hw199_11), ((HB.out.cell (World.block_lt_of_cell? w _ hw199_12)).trans hw199_12), ((HB.out.cell (World.block_lt_of_cell? w _ hw199_13)).trans hw199_13)⟩ (fun hHeld => ?_); refine with_tabW terrierref17_Same.tab6 terrierref17_Same.bits6 (fun HT_ HW_ => ?_)
            generalize wr.drew = w21 at HB HR198_1 HR198_2 HR198_8 HR198_9 HR199_1 HR199_2 HR199_8 HR199_9 hx198_0 hx198_1 hx198_10 hx198_11 hx198_12 hx198_13 hx198_2 hx198_3 hx198_4 hx198_5 hx198_6 hx198_7 hx198_8 hx198_9 hx199_0 hx199_1 hx199_10 hx199_11 hx199_12 hx199_13 hx199_2 hx199_3 hx199_4 hx199_5 hx199_6 hx199_7 hx199_8 hx199_9 hHeld ⊢; refine pure_ (i := 0) (N := some 16) (v := ?_) (a' := ?_) zb10_1 rfl rfl (any_of HT_.out (by kernel_rfl)) (fun _ _ _ h => h) (Or.inl ⟨by rfl, ?_⟩) ?_ ?_; rotate_left
            · intro w'; go_simp; with_reducible rfl
            rotate_left
            · simp only [Act.put, Ext.sb, Ext.sz, Ext.ss, i64_w, i32_w]; rfl
            refine pure_ (i := 1) (N := some 17) (v := ?_) (a' := ?_) zb10_2 rfl rfl (any_of HT_.out (by kernel_rfl)) (fun _ _ _ h => h) (Or.inl ⟨by rfl, ?_⟩) ?_ ?_; rotate_left
            · intro w'; go_simp; with_reducible rfl
            rotate_left
            · simp only [Act.put, Ext.sb, Ext.sz, Ext.ss, i64_w, i32_w]; rfl
            refine pure_ (i := 2) (N := some 18) (v := ?_) (a' := ?_) zb10_3 rfl rfl (any_of HT_.out (by kernel_rfl)) (fun _ _ _ h => h) (Or.inl ⟨by rfl, ?_⟩) ?_ ?_; rotate_left
            · intro w'; go_simp; with_reducible rfl
            rotate_left
            · simp only [Act.put, Ext.sb, Ext.sz, Ext.ss, i64_w, i32_w]; rfl
            refine pure_ (i := 3) (N := some 19) (v := ?_) (a' := ?_) zb10_4 rfl rfl (any_of HT_.out (by kernel_rfl)) (fun _ _ _ h => h) (Or.inl ⟨by rfl, ?_⟩) ?_ ?_; rotate_left
            · intro w'; go_simp; with_reducible rfl
            rotate_left
            · simp only [Act.put, Ext.sb, Ext.sz, Ext.ss, i64_w, i32_w]; rfl
            refine pure_ (i := 5) (N := some 21) (v := ?_) (a' := ?_) zb10_5 rfl rfl (any_of HT_.out (by kernel_rfl)) (fun _ _ _ h => h) (Or.inl ⟨by rfl, ?_⟩) ?_ ?_; rotate_left
            · intro w'; go_simp; with_reducible rfl
            rotate_left
            · simp only [Act.put, Ext.sb, Ext.sz, Ext.ss, i64_w, i32_w]; rfl
            refine pure_ (i := 6) (N := some 22) (v := ?_) (a' := ?_) zb10_6 rfl rfl (any_of HT_.out (by kernel_rfl)) (fun _ _ _ h => h) (Or.inl ⟨by rfl, ?_⟩) ?_ ?_; rotate_left
            · intro w'; go_simp; with_reducible rfl
            rotate_left
            · simp only [Act.put, Ext.sb, Ext.sz, Ext.ss, i64_w, i32_w]; rfl
            refine pure_ (i := 7) (N := some 23) (v := ?_) (a' := ?_) zb10_7 rfl rfl (any_of HT_.out (by kernel_rfl)) (fun _ _ _ h => h) (Or.inl ⟨by rfl, ?_⟩) ?_ ?_; rotate_left
            · intro w'; go_simp; with_reducible rfl
            rotate_left
            · simp only [Act.put, Ext.sb, Ext.sz, Ext.ss, i64_w, i32_w]; rfl
            refine pure_ (i := 8) (N := some 24) (v := ?_) (a' := ?_) zb10_8 rfl rfl (any_of HT_.out (by kernel_rfl)) (fun _ _ _ h => h) (Or.inl ⟨by rfl, ?_⟩) ?_ ?_; rotate_left
            · intro w'; go_simp; with_reducible rfl
            rotate_left
            · simp only [Act.put, Ext.sb, Ext.sz, Ext.ss, i64_w, i32_w]; rfl
            refine take_ (i := 4) (N := some 20) (v := ?_) (a' := ?_) zb10_9 rfl rfl (take_ofW HT_.out HW_.out (by kernel_rfl)) (fun _ _ _ h => h) (Or.inl ⟨by rfl, ?_⟩) hHeld ?_ ?_; rotate_left
            · rintro w' ⟨s0, s1, s2, s3, s4, s5, s6, s7, s8, s9, s10, s11, s12, s13, s14, s15, s16, s17, s18, s19, s20, s21, s22, s23, s24, s25, s26, s27⟩; go_simp; with_reducible rfl
            rotate_left
            · simp only [Act.put, Ext.sb, Ext.sz, Ext.ss, i64_w, i32_w]; rfl
            refine take_ (i := 9) (N := some 25) (v := ?_) (a' := ?_) zb10_10 rfl rfl (take_ofW HT_.out HW_.out (by kernel_rfl)) (fun _ _ _ h => h) (Or.inl ⟨by rfl, ?_⟩) hHeld ?_ ?_; rotate_left
            · rintro w' ⟨s0, s1, s2, s3, s4, s5, s6, s7, s8, s9, s10, s11, s12, s13, s14, s15, s16, s17, s18, s19, s20, s21, s22, s23, s24, s25, s26, s27⟩; go_simp; with_reducible rfl
            rotate_left
            · simp only [Act.put, Ext.sb, Ext.sz, Ext.ss, i64_w, i32_w]; rfl
            refine pure_ (i := 10) (N := some 26) (v := ?_) (a' := ?_) zb10_11 rfl rfl (any_of HT_.out (by kernel_rfl)) (fun _ _ _ h => h) (Or.inl ⟨by rfl, ?_⟩) ?_ ?_; rotate_left
            · intro w'; go_simp; with_reducible rfl
            rotate_left
            · simp only [Act.put, Ext.sb, Ext.sz, Ext.ss, i64_w, i32_w]; rfl
            refine pure_ (i := 11) (N := some 27) (v := ?_) (a' := ?_) zb10_12 rfl rfl (any_of HT_.out (by kernel_rfl)) (fun _ _ _ h => h) (Or.inl ⟨by rfl, ?_⟩) ?_ ?_; rotate_left
            · intro w'; go_simp; with_reducible rfl
            rotate_left
            · simp only [Act.put, Ext.sb, Ext.sz, Ext.ss, i64_w, i32_w]; rfl
            refine pure_ (i := 12) (N := some 28) (v := ?_) (a' := ?_) zb10_13 rfl rfl (any_of HT_.out (by kernel_rfl)) (fun _ _ _ h => h) (Or.inl ⟨by rfl, ?_⟩) ?_ ?_; rotate_left
            · intro w'; go_simp; with_reducible rfl
            rotate_left
            · simp only [Act.put, Ext.sb, Ext.sz, Ext.ss, i64_w, i32_w]; rfl
            refine pure_ (i := 13) (N := some 29) (v := ?_) (a' := ?_) zb10_14 rfl rfl (any_of HT_.out (by kernel_rfl)) (fun _ _ _ h => h) (Or.inl ⟨by rfl, ?_⟩) ?_ ?_; rotate_left
            · intro w'; go_simp; with_reducible rfl
            rotate_left
            · simp only [Act.put, Ext.sb, Ext.sz, Ext.ss, i64_w, i32_w]; rfl
            refine pure_ (i := 14) (N := some 30) (v := ?_) (a' := ?_) zb10_15 rfl rfl (any_of HT_.out (by kernel_rfl)) (fun _ _ _ h => h) (Or.inl ⟨by rfl, ?_⟩) ?_ ?_; rotate_left
            · intro w'; go_simp; with_reducible rfl
            rotate_left
            · simp only [Act.put, Ext.sb, Ext.sz, Ext.ss, i64_w, i32_w]; rfl
            refine pure_ (i := 15) (N := some 31) (v := ?_) (a' := ?_) zb10_16 rfl rfl (any_of HT_.out (by kernel_rfl)) (fun _ _ _ h => h) (Or.inl ⟨by rfl, ?_⟩) ?_ ?_; rotate_left
            · intro w'; go_simp; with_reducible rfl
            rotate_left
            · simp only [Act.put, Ext.sb, Ext.sz, Ext.ss, i64_w, i32_w]; rfl
            refine pure_ (i := 17) (N := some 33) (v := ?_) (a' := ?_) zb10_41 rfl rfl (any_of HT_.out (by kernel_rfl)) (fun _ _ _ h => h) (Or.inl ⟨by rfl, ?_⟩) ?_ ?_; rotate_left
            · intro w'; go_simp; with_reducible rfl
            rotate_left
            · simp only [Act.put, Ext.sb, Ext.sz, Ext.ss, i64_w, i32_w]; rfl
            refine pure_ (i := 18) (N := some 34) (v := ?_) (a' := ?_) zb10_42 rfl rfl (any_of HT_.out (by kernel_rfl)) (fun _ _ _ h => h) (Or.inl ⟨by rfl, ?_⟩) ?_ ?_; rotate_left
            · intro w'; go_simp; with_reducible rfl
            rotate_left
            · simp only [Act.put, Ext.sb, Ext.sz, Ext.ss, i64_w, i32_w]; rfl
            refine pure_ (i := 19) (N := some 35) (v := ?_) (a' := ?_) zb10_43 rfl rfl (any_of HT_.out (by kernel_rfl)) (fun _ _ _ h => h) (Or.inl ⟨by rfl, ?_⟩) ?_ ?_; rotate_left
            · intro w'; go_simp; with_reducible rfl
            rotate_left
            · simp only [Act.put, Ext.sb, Ext.sz, Ext.ss, i64_w, i32_w]; rfl
            refine pure_ (i := 20) (N := some 36) (v := ?_) (a' := ?_) zb10_44 rfl rfl (any_of HT_.out (by kernel_rfl)) (fun _ _ _ h => h) (Or.inl ⟨by rfl, ?_⟩) ?_ ?_; rotate_left
            · intro w'; go_simp; with_reducible rfl
            rotate_left
            · simp only [Act.put, Ext.sb, Ext.sz, Ext.ss, i64_w, i32_w]; rfl
            refine take_ (i := 16) (N := some 32) (v := ?_) (a' := ?_) zb10_17 rfl rfl (take_ofW HT_.out HW_.out (by kernel_rfl)) (fun _ _ _ h => h) (Or.inl ⟨by rfl, ?_⟩) hHeld ?_ ?_; rotate_left
            · rintro w' ⟨s0, s1, s2, s3, s4, s5, s6, s7, s8, s9, s10, s11, s12, s13, s14, s15, s16, s17, s18, s19, s20, s21, s22, s23, s24, s25, s26, s27⟩; go_simp; with_reducible rfl
            rotate_left
            · simp only [Act.put, Ext.sb, Ext.sz, Ext.ss, i64_w, i32_w]; rfl
            refine take_ (i := 21) (N := some 37) (v := ?_) (a' := ?_) zb10_18 rfl rfl (take_ofW HT_.out HW_.out (by kernel_rfl)) (fun _ _ _ h => h) (Or.inl ⟨by rfl, ?_⟩) hHeld ?_ ?_; rotate_left
            · rintro w' ⟨s0, s1, s2, s3, s4, s5, s6, s7, s8, s9, s10, s11, s12, s13, s14, s15, s16, s17, s18, s19, s20, s21, s22, s23, s24, s25, s26, s27⟩; go_simp; with_reducible rfl
            rotate_left
            · simp only [Act.put, Ext.sb, Ext.sz, Ext.ss, i64_w, i32_w]; rfl
            refine pure_ (i := 22) (N := some 38) (v := ?_) (a' := ?_) zb10_19 rfl rfl (any_of HT_.out (by kernel_rfl)) (fun _ _ _ h => h) (Or.inl ⟨by rfl, ?_⟩) ?_ ?_; rotate_left
            · intro w'; go_simp; with_reducible rfl
            rotate_left
            · simp only [Act.put, Ext.sb, Ext.sz, Ext.ss, i64_w, i32_w]; rfl
            refine pure_ (i := 23) (N := some 39) (v := ?_) (a' := ?_) zb10_20 rfl rfl (any_of HT_.out (by kernel_rfl)) (fun _ _ _ h => h) (Or.inl ⟨by rfl, ?_⟩) ?_ ?_; rotate_left
            · intro w'; go_simp; with_reducible rfl
            rotate_left
            · simp only [Act.put, Ext.sb, Ext.sz, Ext.ss, i64_w, i32_w]; rfl
            refine pure_ (i := 24) (N := some 40) (v := ?_) (a' := ?_) zb10_21 rfl rfl (any_of HT_.out (by kernel_rfl)) (fun _ _ _ h => h) (Or.inl ⟨by rfl, ?_⟩) ?_ ?_; rotate_left
            · intro w'; go_simp; with_reducible rfl
            rotate_left
            · simp only [Act.put, Ext.sb, Ext.sz, Ext.ss, i64_w, i32_w]; rfl
            refine pure_ (i := 25) (N := some 41) (v := ?_) (a' := ?_) zb10_22 rfl rfl (any_of HT_.out (by kernel_rfl)) (fun _ _ _ h => h) (Or.inl ⟨by rfl, ?_⟩) ?_ ?_; rotate_left
            · intro w'; go_simp; with_reducible rfl
            rotate_left
            · simp only [Act.put, Ext.sb, Ext.sz, Ext.ss, i64_w, i32_w]; rfl
            refine pure_ (i := 26) (N := some 42) (v := ?_) (a' := ?_) zb10_23 rfl rfl (any_of HT_.out (by kernel_rfl)) (fun _ _ _ h => h) (Or.inl ⟨by rfl, ?_⟩) ?_ ?_; rotate_left
            · intro w'; go_simp; with_reducible rfl
            rotate_left
            · simp only [Act.put, Ext.sb, Ext.sz, Ext.ss, i64_w, i32_w]; rfl
            refine pure_ (i := 27) (N := some 43) (v := ?_) (a' := ?_) zb10_24 rfl rfl (any_of HT_.out (by kernel_rfl)) (fun _ _ _ h => h) (Or.inl ⟨by rfl, ?_⟩) ?_ ?_; rotate_left
            · intro w'; go_simp; with_reducible rfl
            rotate_left
            · simp only [Act.put, Ext.sb, Ext.sz, Ext.ss, i64_w, i32_w]; rfl
            refine pure_ (i := 28) (N := some 44) (v := ?_) (a' := ?_) zb10_25 rfl rfl (any_of HT_.out (by kernel_rfl)) (fun _ _ _ h => h) (Or.inl ⟨by rfl, ?_⟩) ?_ ?_; rotate_left
            · intro w'; go_simp; with_reducible rfl
            rotate_left
            · simp only [Act.put, Ext.sb, Ext.sz, Ext.ss, i64_w, i32_w]; rfl
            refine pure_ (i := 30) (N := some 46) (v := ?_) (a' := ?_) zb10_50 rfl rfl (any_of HT_.out (by kernel_rfl)) (fun _ _ _ h => h) (Or.inl ⟨by rfl, ?_⟩) ?_ ?_; rotate_left
            · intro w'; go_simp; with_reducible rfl
            rotate_left
            · simp only [Act.put, Ext.sb, Ext.sz, Ext.ss, i64_w, i32_w]; rfl
            refine pure_ (i := 31) (N := some 47) (v := ?_) (a' := ?_) zb10_52 rfl rfl (any_of HT_.out (by kernel_rfl)) (fun _ _ _ h => h) (Or.inl ⟨by rfl, ?_⟩) ?_ ?_; rotate_left
            · intro w'; go_simp; with_reducible rfl
            rotate_left
            · simp only [Act.put, Ext.sb, Ext.sz, Ext.ss, i64_w, i32_w]; rfl
            refine pure_ (i := 32) (N := some 48) (v := ?_) (a' := ?_) zb10_54 rfl rfl (any_of HT_.out (by kernel_rfl)) (fun _ _ _ h => h) (Or.inl ⟨by rfl, ?_⟩) ?_ ?_; rotate_left
            · intro w'; go_simp; with_reducible rfl
            rotate_left
            · simp only [Act.put, Ext.sb, Ext.sz, Ext.ss, i64_w, i32_w]; rfl
            refine pure_ (i := 33) (N := some 49) (v := ?_) (a' := ?_) zb10_56 rfl rfl (any_of HT_.out (by kernel_rfl)) (fun _ _ _ h => h) (Or.inl ⟨by rfl, ?_⟩) ?_ ?_; rotate_left
            · intro w'; go_simp; with_reducible rfl
            rotate_left
            · simp only [Act.put, Ext.sb, Ext.sz, Ext.ss, i64_w, i32_w]; rfl
            refine take_ (i := 29) (N := some 45) (v := ?_) (a' := ?_) zb10_26 rfl rfl (take_ofW HT_.out HW_.out (by kernel_rfl)) (fun _ _ _ h => h) (Or.inl ⟨by rfl, ?_⟩) hHeld ?_ ?_; rotate_left
            · rintro w' ⟨s0, s1, s2, s3, s4, s5, s6, s7, s8, s9, s10, s11, s12, s13, s14, s15, s16, s17, s18, s19, s20, s21, s22, s23, s24, s25, s26, s27⟩; go_simp; with_reducible rfl
            rotate_left
            · simp only [Act.put, Ext.sb, Ext.sz, Ext.ss, i64_w, i32_w]; rfl
            refine take_ (i := 34) (N := some 50) (v := ?_) (a' := ?_) zb10_27 rfl rfl (take_ofW HT_.out HW_.out (by kernel_rfl)) (fun _ _ _ h => h) (Or.inl ⟨by rfl, ?_⟩) hHeld ?_ ?_; rotate_left
            · rintro w' ⟨s0, s1, s2, s3, s4, s5, s6, s7, s8, s9, s10, s11, s12, s13, s14, s15, s16, s17, s18, s19, s20, s21, s22, s23, s24, s25, s26, s27⟩; go_simp; with_reducible rfl
            rotate_left
            · simp only [Act.put, Ext.sb, Ext.sz, Ext.ss, i64_w, i32_w]; rfl
            refine one_ (i := 35) (N := some 51) zb10_28 rfl rfl (one_of HT_.out (by kernel_rfl)) (by decide) (fun K hK => ?_); refine goes_ Try.func22 (by kernel_rfl) rfl #[.agg #[.slice A198_1 ((rd_T38 l0 x13_1).f1.f0).length c198_1, .slice A198_2 ((rd_T38 l0 x13_1).f1.f1).length c198_2, .int .i64 ((rd_T38 l0 x13_1).f1.f2), .int .i64 ((rd_T38 l0 x13_1).f1.f3), .int .i64 ((rd_T38 l0 x13_1).f1.f4), .int .i64 ((rd_T38 l0 x13_1).f1.f5)], .agg #[.slice A199_1 ((rd_T38 l1 x13_1).f1.f0).length c199_1, .slice A199_2 ((rd_T38 l1 x13_1).f1.f1).length c199_2, .int .i64 ((rd_T38 l1 x13_1).f1.f2), .int .i64 ((rd_T38 l1 x13_1).f1.f3), .int .i64 ((rd_T38 l1 x13_1).f1.f4), .int .i64 ((rd_T38 l1 x13_1).f1.f5)]] (by rfl) rfl rfl (by (try simp only [List.map_toArray, List.map_cons, List.map_nil]); first | done | rfl | (simp only [List.length_drop, List.length_take]; rfl)) ?_
            with_reducible refine (terrierref13_Same.calls _ _ ((rd_T38 l0 x13_1).f1.f0) _ _ ((rd_T38 l0 x13_1).f1.f1) ((rd_T38 l0 x13_1).f1.f2) ((rd_T38 l0 x13_1).f1.f3) ((rd_T38 l0 x13_1).f1.f4) ((rd_T38 l0 x13_1).f1.f5) _ _ ((rd_T38 l1 x13_1).f1.f0) _ _ ((rd_T38 l1 x13_1).f1.f1) ((rd_T38 l1 x13_1).f1.f2) ((rd_T38 l1 x13_1).f1.f3) ((rd_T38 l1 x13_1).f1.f4) ((rd_T38 l1 x13_1).f1.f5) true _ ?side1 ?side2 ?side3 ?side4 ?side5 ?side6 ?side7 ?side8 A16.out).mono ?_
            (case side1 => first | exact Ext.kC HR198_1.out HB.out | exact Ext.nC HR198_1.out)
            (case side2 => exact HC198_1.out)
            (case side3 => first | exact Ext.kC HR198_2.out HB.out | exact Ext.nC HR198_2.out)
            (case side4 => exact HC198_2.out)
            (case side5 => first | exact Ext.kC HR199_1.out HB.out | exact Ext.nC HR199_1.out)
            (case side6 => exact HC199_1.out)
            (case side7 => first | exact Ext.kC HR199_2.out HB.out | exact Ext.nC HR199_2.out)
            (case side8 => exact HC199_2.out)
            rintro e w22 ⟨rfl, hb⟩; refine ⟨_, rfl, ?_⟩; replace HB := Ext.a (below_step (Ext.nB HB.out) hb); (try clear hb); have p18 : 0 ≤ (x13_1 : Int) := of_decide_eq_true (by first | (with_reducible assumption) | assumption); have q18 : (x13_1 : Int) < ((l0.length : Int) : Int) := of_decide_eq_true (by first | (with_reducible assumption) | assumption); replace p18 := eq_true p18; replace q18 := eq_true q18; have p19 : 0 ≤ (x13_1 : Int) := of_decide_eq_true (by first | (with_reducible assumption) | assumption); have q19 : (x13_1 : Int) < ((l1.length : Int) : Int) := of_decide_eq_true (by first | (with_reducible assumption) | assumption); replace p19 := eq_true p19; replace q19 := eq_true q19; refine hK.out _ _ ⟨((HB.out.cell (World.block_lt_of_cell? w _ hw198_0)).trans hw198_0), ((HB.out.cell (World.block_lt_of_cell? w _ hw198_1)).trans hw198_1), ((HB.out.cell (World.block_lt_of_cell? w _ hw198_2)).trans hw198_2), ((HB.out.cell (World.block_lt_of_cell? w _ hw198_3)).trans hw198_3), ((HB.out.cell (World.block_lt_of_cell? w _ hw198_4)).trans hw198_4), ((HB.out.cell (World.block_lt_of_cell? w _ hw198_5)).trans hw198_5), ((HB.out.cell (World.block_lt_of_cell? w _ hw198_6)).trans hw198_6), ((HB.out.cell (World.block_lt_of_cell? w _ hw198_7)).trans hw198_7), ((HB.out.cell (World.block_lt_of_cell? w _ hw198_8)).trans hw198_8), ((HB.out.cell (World.block_lt_of_cell? w _ hw198_9)).trans hw198_9), ((HB.out.cell (World.block_lt_of_cell? w _ hw198_10)).trans hw198_10), ((HB.out.cell (World.block_lt_of_cell? w _ hw198_11)).trans hw198_11), ((HB.out.cell (World.block_lt_of_cell? w _ hw198_12)).trans hw198_12), ((HB.out.cell (World.block_lt_of_cell? w _ hw198_13)).trans hw198_13), ((HB.out.cell (World.block_lt_of_cell? w _ hw199_0)).trans hw199_0), ((HB.out.cell (World.block_lt_of_cell? w _ hw199_1)).trans hw199_1), ((HB.out.cell (World.block_lt_of_cell? w _ hw199_2)).trans hw199_2), ((HB.out.cell (World.block_lt_of_cell? w _ hw199_3)).trans hw199_3), ((HB.out.cell (World.block_lt_of_cell? w _ hw199_4)).trans hw199_4), ((HB.out.cell (World.block_lt_of_cell? w _ hw199_5)).trans hw199_5), ((HB.out.cell (World.block_lt_of_cell? w _ hw199_6)).trans hw199_6), ((HB.out.cell (World.block_lt_of_cell? w _ hw199_7)).trans hw199_7), ((HB.out.cell (World.block_lt_of_cell? w _ hw199_8)).trans hw199_8), ((HB.out.cell (World.block_lt_of_cell? w _ hw199_9)).trans hw199_9), ((HB.out.cell (World.block_lt_of_cell? w _ hw199_10)).trans hw199_10), ((HB.out.cell (World.block_lt_of_cell? w _ hw199_11)).trans hw199_11), ((HB.out.cell (World.block_lt_of_cell? w _ hw199_12)).trans hw199_12), ((HB.out.cell (World.block_lt_of_cell? w _ hw199_13)).trans hw199_13)⟩ (fun hHeld => ?_)
            clear hK K; refine norm_ (a' := ?_) ?_ ?_; rotate_left
            · show Act.put _ (some 51) _ = _; simp only [Act.put, Ext.sb, Ext.sz, Ext.ss, i64_w, i32_w]; rfl
            refine pure_ (i := 36) (N := some 52) (v := ?_) (a' := ?_) zb10_29 rfl rfl (any_of HT_.out (by kernel_rfl)) (fun _ _ _ h => h) (Or.inl ⟨by rfl, ?_⟩) ?_ ?_; rotate_left
            · intro w'; go_simp; with_reducible rfl
            rotate_left
            · simp only [Act.put, Ext.sb, Ext.sz, Ext.ss, i64_w, i32_w]; rfl
            refine pure_ (i := 37) (N := some 53) (v := ?_) (a' := ?_) zb10_30 rfl rfl (any_of HT_.out (by kernel_rfl)) (fun _ _ _ h => h) (Or.inl ⟨by rfl, ?_⟩) ?_ ?_; rotate_left
            · intro w'; go_simp; with_reducible rfl
            rotate_left
            · simp only [Act.put, Ext.sb, Ext.sz, Ext.ss, i64_w, i32_w]; rfl
            refine pure_ (i := 38) (N := some 54) (v := ?_) (a' := ?_) zb10_31 rfl rfl (any_of HT_.out (by kernel_rfl)) (fun _ _ _ h => h) (Or.inl ⟨by rfl, ?_⟩) ?_ ?_; rotate_left
            · intro w'; go_simp; with_reducible rfl
            rotate_left
            · simp only [Act.put, Ext.sb, Ext.sz, Ext.ss, i64_w, i32_w]; rfl
            refine pure_ (i := 39) (N := some 55) (v := ?_) (a' := ?_) zb10_32 rfl rfl (any_of HT_.out (by kernel_rfl)) (fun _ _ _ h => h) (Or.inl ⟨by rfl, ?_⟩) ?_ ?_; rotate_left
            · intro w'; go_simp; with_reducible rfl
            rotate_left
            · simp only [Act.put, Ext.sb, Ext.sz, Ext.ss, i64_w, i32_w]; rfl
            refine pure_ (i := 40) (N := some 56) (v := ?_) (a' := ?_) zb10_33 rfl rfl (any_of HT_.out (by kernel_rfl)) (fun _ _ _ h => h) (Or.inl ⟨by rfl, ?_⟩) ?_ ?_; rotate_left
            · intro w'; go_simp; with_reducible rfl
            rotate_left
            · simp only [Act.put, Ext.sb, Ext.sz, Ext.ss, i64_w, i32_w]; rfl
            refine pure_ (i := 41) (N := some 57) (v := ?_) (a' := ?_) zb10_34 rfl rfl (any_of HT_.out (by kernel_rfl)) (fun _ _ _ h => h) (Or.inl ⟨by rfl, ?_⟩) ?_ ?_; rotate_left
            · intro w'; go_simp; with_reducible rfl
            rotate_left
            · simp only [Act.put, Ext.sb, Ext.sz, Ext.ss, i64_w, i32_w]; rfl
            refine pure_ (i := 42) (N := some 58) (v := ?_) (a' := ?_) zb10_35 rfl rfl (any_of HT_.out (by kernel_rfl)) (fun _ _ _ h => h) (Or.inl ⟨by rfl, ?_⟩) ?_ ?_; rotate_left
            · intro w'; go_simp; with_reducible rfl
            rotate_left
            · simp only [Act.put, Ext.sb, Ext.sz, Ext.ss, i64_w, i32_w]; rfl
            refine pure_ (i := 44) (N := some 60) (v := ?_) (a' := ?_) #[true, true, true, true, true, true, true, true, true, true, true, true, true, true, true, true, true, true, true, true, true, true, true, true, true, true, true, true, true, true, true, true, true, true, true, true, true, true, true, true, true, true, true, false, true, false, false, false, false, false, false, false] rfl rfl (any_of HT_.out (by kernel_rfl)) (fun _ _ _ h => h) (Or.inl ⟨by rfl, ?_⟩) ?_ ?_; rotate_left
            · intro w'; go_simp; with_reducible rfl
            rotate_left
            · simp only [Act.put, Ext.sb, Ext.sz, Ext.ss, i64_w, i32_w]; rfl
            refine pure_ (i := 45) (N := some 61) (v := ?_) (a' := ?_) #[true, true, true, true, true, true, true, true, true, true, true, true, true, true, true, true, true, true, true, true, true, true, true, true, true, true, true, true, true, true, true, true, true, true, true, true, true, true, true, true, true, true, true, false, true, true, false, false, false, false, false, false] rfl rfl (any_of HT_.out (by kernel_rfl)) (fun _ _ _ h => h) (Or.inl ⟨by rfl, ?_⟩) ?_ ?_; rotate_left
            · intro w'; go_simp; with_reducible rfl
            rotate_left
            · simp only [Act.put, Ext.sb, Ext.sz, Ext.ss, i64_w, i32_w]; rfl
            refine pure_ (i := 46) (N := some 62) (v := ?_) (a' := ?_) #[true, true, true, true, true, true, true, true, true, true, true, true, true, true, true, true, true, true, true, true, true, true, true, true, true, true, true, true, true, true, true, true, true, true, true, true, true, true, true, true, true, true, true, false, true, true, true, false, false, false, false, false] rfl rfl (any_of HT_.out (by kernel_rfl)) (fun _ _ _ h => h) (Or.inl ⟨by rfl, ?_⟩) ?_ ?_; rotate_left
            · intro w'; go_simp; with_reducible rfl
            rotate_left
            · simp only [Act.put, Ext.sb, Ext.sz, Ext.ss, i64_w, i32_w]; rfl
            refine pure_ (i := 47) (N := some 63) (v := ?_) (a' := ?_) #[true, true, true, true, true, true, true, true, true, true, true, true, true, true, true, true, true, true, true, true, true, true, true, true, true, true, true, true, true, true, true, true, true, true, true, true, true, true, true, true, true, true, true, false, true, true, true, true, false, false, false, false] rfl rfl (any_of HT_.out (by kernel_rfl)) (fun _ _ _ h => h) (Or.inl ⟨by rfl, ?_⟩) ?_ ?_; rotate_left
            · intro w'; go_simp; with_reducible rfl
            rotate_left
            · simp only [Act.put, Ext.sb, Ext.sz, Ext.ss, i64_w, i32_w]; rfl
            refine take_ (i := 43) (N := some 59) (v := ?_) (a' := ?_) zb10_36 rfl rfl (take_ofW HT_.out HW_.out (by kernel_rfl)) (fun _ _ _ h => h) (Or.inl ⟨by rfl, ?_⟩) hHeld ?_ ?_; rotate_left
            · rintro w' ⟨s0, s1, s2, s3, s4, s5, s6, s7, s8, s9, s10, s11, s12, s13, s14, s15, s16, s17, s18, s19, s20, s21, s22, s23, s24, s25, s26, s27⟩; go_simp; with_reducible rfl
            rotate_left
            · simp only [Act.put, Ext.sb, Ext.sz, Ext.ss, i64_w, i32_w]; rfl
            refine take_ (i := 48) (N := some 64) (v := ?_) (a' := ?_) zb10_37 rfl rfl (take_ofW HT_.out HW_.out (by kernel_rfl)) (fun _ _ _ h => h) (Or.inl ⟨by rfl, ?_⟩) hHeld ?_ ?_; rotate_left
            · rintro w' ⟨s0, s1, s2, s3, s4, s5, s6, s7, s8, s9, s10, s11, s12, s13, s14, s15, s16, s17, s18, s19, s20, s21, s22, s23, s24, s25, s26, s27⟩; go_simp; with_reducible rfl
            rotate_left
            · simp only [Act.put, Ext.sb, Ext.sz, Ext.ss, i64_w, i32_w]; rfl
            refine one_ (i := 49) (N := some 65) zb10_38 rfl rfl (one_of HT_.out (by kernel_rfl)) (by decide) (fun K hK => ?_); refine goes_ Try.func22 (by kernel_rfl) rfl #[.agg #[.slice A198_8 ((rd_T38 l0 x13_1).f3.f0).length c198_8, .slice A198_9 ((rd_T38 l0 x13_1).f3.f1).length c198_9, .int .i64 ((rd_T38 l0 x13_1).f3.f2), .int .i64 ((rd_T38 l0 x13_1).f3.f3), .int .i64 ((rd_T38 l0 x13_1).f3.f4), .int .i64 ((rd_T38 l0 x13_1).f3.f5)], .agg #[.slice A199_8 ((rd_T38 l1 x13_1).f3.f0).length c199_8, .slice A199_9 ((rd_T38 l1 x13_1).f3.f1).length c199_9, .int .i64 ((rd_T38 l1 x13_1).f3.f2), .int .i64 ((rd_T38 l1 x13_1).f3.f3), .int .i64 ((rd_T38 l1 x13_1).f3.f4), .int .i64 ((rd_T38 l1 x13_1).f3.f5)]] (by rfl) rfl rfl (by (try simp only [List.map_toArray, List.map_cons, List.map_nil]); first | done | rfl | (simp only [List.length_drop, List.length_take]; rfl)) ?_
            with_reducible refine (terrierref13_Same.calls _ _ ((rd_T38 l0 x13_1).f3.f0) _ _ ((rd_T38 l0 x13_1).f3.f1) ((rd_T38 l0 x13_1).f3.f2) ((rd_T38 l0 x13_1).f3.f3) ((rd_T38 l0 x13_1).f3.f4) ((rd_T38 l0 x13_1).f3.f5) _ _ ((rd_T38 l1 x13_1).f3.f0) _ _ ((rd_T38 l1 x13_1).f3.f1) ((rd_T38 l1 x13_1).f3.f2) ((rd_T38 l1 x13_1).f3.f3) ((rd_T38 l1 x13_1).f3.f4) ((rd_T38 l1 x13_1).f3.f5) t207 _ ?side1 ?side2 ?side3 ?side4 ?side5 ?side6 ?side7 ?side8 A20.out).mono ?_
            (case side1 => first | exact Ext.kC HR198_8.out HB.out | exact Ext.nC HR198_8.out)
            (case side2 => exact HC198_8.out)
            (case side3 => first | exact Ext.kC HR198_9.out HB.out | exact Ext.nC HR198_9.out)
            (case side4 => exact HC198_9.out)
            (case side5 => first | exact Ext.kC HR199_8.out HB.out | exact Ext.nC HR199_8.out)
            (case side6 => exact HC199_8.out)
            (case side7 => first | exact Ext.kC HR199_9.out HB.out | exact Ext.nC HR199_9.out)
            (case side8 => exact HC199_9.out)
            rintro e w23 ⟨rfl, hb⟩; refine ⟨_, rfl, ?_⟩; replace HB := Ext.a (below_step (Ext.nB HB.out) hb); (try clear hb); refine hK.out _ _ ⟨((HB.out.cell (World.block_lt_of_cell? w _ hw198_0)).trans hw198_0), ((HB.out.cell (World.block_lt_of_cell? w _ hw198_1)).trans hw198_1), ((HB.out.cell (World.block_lt_of_cell? w _ hw198_2)).trans hw198_2), ((HB.out.cell (World.block_lt_of_cell? w _ hw198_3)).trans hw198_3), ((HB.out.cell (World.block_lt_of_cell? w _ hw198_4)).trans hw198_4), ((HB.out.cell (World.block_lt_of_cell? w _ hw198_5)).trans hw198_5), ((HB.out.cell (World.block_lt_of_cell? w _ hw198_6)).trans hw198_6), ((HB.out.cell (World.block_lt_of_cell? w _ hw198_7)).trans hw198_7), ((HB.out.cell (World.block_lt_of_cell? w _ hw198_8)).trans hw198_8), ((HB.out.cell (World.block_lt_of_cell? w _ hw198_9)).trans hw198_9), ((HB.out.cell (World.block_lt_of_cell? w _ hw198_10)).trans hw198_10), ((HB.out.cell (World.block_lt_of_cell? w _ hw198_11)).trans hw198_11), ((HB.out.cell (World.block_lt_of_cell? w _ hw198_12)).trans hw198_12), ((HB.out.cell (World.block_lt_of_cell? w _ hw198_13)).trans hw198_13), ((HB.out.cell (World.block_lt_of_cell? w _ hw199_0)).trans hw199_0), ((HB.out.cell (World.block_lt_of_cell? w _ hw199_1)).trans hw199_1), ((HB.out.cell (World.block_lt_of_cell? w _ hw199_2)).trans hw199_2), ((HB.out.cell (World.block_lt_of_cell? w _ hw199_3)).trans hw199_3), ((HB.out.cell (World.block_lt_of_cell? w _ hw199_4)).trans hw199_4), ((HB.out.cell (World.block_lt_of_cell? w _ hw199_5)).trans hw199_5), ((HB.out.cell (World.block_lt_of_cell? w _ hw199_6)).trans hw199_6), ((HB.out.cell (World.block_lt_of_cell? w _ hw199_7)).trans hw199_7), ((HB.out.cell (World.block_lt_of_cell? w _ hw199_8)).trans hw199_8), ((HB.out.cell (World.block_lt_of_cell? w _ hw199_9)).trans hw199_9), ((HB.out.cell (World.block_lt_of_cell? w _ hw199_10)).trans hw199_10), ((HB.out.cell (World.block_lt_of_cell? w _ hw199_11)).trans hw199_11), ((HB.out.cell (World.block_lt_of_cell? w _ hw199_12)).trans hw199_12), ((HB.out.cell (World.block_lt_of_cell? w _ hw199_13)).trans hw199_13)⟩ (fun hHeld => ?_)
            clear hK K; refine norm_ (a' := ?_) ?_ ?_; rotate_left
            · show Act.put _ (some 65) _ = _; simp only [Act.put, Ext.sb, Ext.sz, Ext.ss, i64_w, i32_w]; rfl
            refine pure_ (i := 50) (N := some 66) (v := ?_) (a' := ?_) zb10_39 rfl rfl (any_of HT_.out (by kernel_rfl)) (fun _ _ _ h => h) (Or.inl ⟨by rfl, ?_⟩) ?_ ?_; rotate_left
            · intro w'; go_simp; with_reducible rfl
            rotate_left
            · simp only [Act.put, Ext.sb, Ext.sz, Ext.ss, i64_w, i32_w]; rfl
            refine pure_ (i := 51) (N := some 67) (v := ?_) (a' := ?_) zb10_40 rfl rfl (any_of HT_.out (by kernel_rfl)) (fun _ _ _ h => h) (Or.inl ⟨by rfl, ?_⟩) ?_ ?_; rotate_left
            · intro w'; go_simp; with_reducible rfl
            rotate_left
            · simp only [Act.put, Ext.sb, Ext.sz, Ext.ss, i64_w, i32_w]; rfl
            refine done_ (done_of HT_.out (by kernel_rfl)) ?_
            try go_wp2
            go_meet
            case rel => exact ⟨_, (!t207), (by first | rfl | (simp; done) | (simp [*]; done)), H', ⟨by have := HK1.out; first | omega | exact Nat.le_refl _⟩, ⟨by exact Ext.nB HB.out⟩⟩
           ·
            replace c17 := Bool.eq_false_iff.mpr c17; subst c17; rw [if_neg Bool.false_ne_true] at H; have H' := Aside0.mk H; clear H
            try go_wp2
            replace HB := Ext.a (below_drew1 HB.out); have p198 : 0 ≤ (x13_1 : Int) := of_decide_eq_true (by first | (with_reducible assumption) | assumption); have q198 : x13_1 < (l0.length : Int) := of_decide_eq_true (by first | (with_reducible assumption) | assumption); obtain ⟨ad198, A198_1, c198_1, A198_2, c198_2, A198_8, c198_8, A198_9, c198_9, e198, hx198_0, hx198_1, hx198_2, hx198_3, hx198_4, hx198_5, hx198_6, hx198_7, hx198_8, hx198_9, hx198_10, hx198_11, hx198_12, hx198_13, hl198_1, hi198_1, hl198_2, hi198_2, hl198_8, hi198_8, hl198_9, hi198_9⟩ := at_T38 HR0.out x13_1 p198 q198; have hw198_13 := hx198_13; have hw198_12 := hx198_12; have hw198_11 := hx198_11; have hw198_10 := hx198_10; have hw198_9 := hx198_9; have hw198_8 := hx198_8; have hw198_7 := hx198_7; have hw198_6 := hx198_6; have hw198_5 := hx198_5; have hw198_4 := hx198_4; have hw198_3 := hx198_3; have hw198_2 := hx198_2; have hw198_1 := hx198_1; have hw198_0 := hx198_0; cases e198; replace hx198_0 := (HB.out.cell (World.block_lt_of_cell? w _ hx198_0)).trans hx198_0; replace hx198_1 := (HB.out.cell (World.block_lt_of_cell? w _ hx198_1)).trans hx198_1; replace hx198_2 := (HB.out.cell (World.block_lt_of_cell? w _ hx198_2)).trans hx198_2; replace hx198_3 := (HB.out.cell (World.block_lt_of_cell? w _ hx198_3)).trans hx198_3; replace hx198_4 := (HB.out.cell (World.block_lt_of_cell? w _ hx198_4)).trans hx198_4; replace hx198_5 := (HB.out.cell (World.block_lt_of_cell? w _ hx198_5)).trans hx198_5; replace hx198_6 := (HB.out.cell (World.block_lt_of_cell? w _ hx198_6)).trans hx198_6
            replace hx198_7 := (HB.out.cell (World.block_lt_of_cell? w _ hx198_7)).trans hx198_7; replace hx198_8 := (HB.out.cell (World.block_lt_of_cell? w _ hx198_8)).trans hx198_8; replace hx198_9 := (HB.out.cell (World.block_lt_of_cell? w _ hx198_9)).trans hx198_9; replace hx198_10 := (HB.out.cell (World.block_lt_of_cell? w _ hx198_10)).trans hx198_10; replace hx198_11 := (HB.out.cell (World.block_lt_of_cell? w _ hx198_11)).trans hx198_11; replace hx198_12 := (HB.out.cell (World.block_lt_of_cell? w _ hx198_12)).trans hx198_12; replace hx198_13 := (HB.out.cell (World.block_lt_of_cell? w _ hx198_13)).trans hx198_13; have HR198_1 := Aside0.mk hi198_1; have HC198_1 := Aside0.mk hl198_1; clear hi198_1 hl198_1; have HR198_2 := Aside0.mk hi198_2; have HC198_2 := Aside0.mk hl198_2; clear hi198_2 hl198_2; have HR198_8 := Aside0.mk hi198_8; have HC198_8 := Aside0.mk hl198_8; clear hi198_8 hl198_8; have HR198_9 := Aside0.mk hi198_9; have HC198_9 := Aside0.mk hl198_9; clear hi198_9 hl198_9; replace p198 := eq_true p198; replace q198 := eq_true q198; have p199 : 0 ≤ (x13_1 : Int) := of_decide_eq_true (by first | (with_reducible assumption) | assumption); have q199 : x13_1 < (l1.length : Int) := of_decide_eq_true (by first | (with_reducible assumption) | assumption); obtain ⟨ad199, A199_1, c199_1, A199_2, c199_2, A199_8, c199_8, A199_9, c199_9, e199, hx199_0, hx199_1, hx199_2, hx199_3, hx199_4, hx199_5, hx199_6, hx199_7, hx199_8, hx199_9, hx199_10, hx199_11, hx199_12, hx199_13, hl199_1, hi199_1, hl199_2, hi199_2, hl199_8, hi199_8, hl199_9, hi199_9⟩ := at_T38 HR1.out x13_1 p199 q199
            have hw199_13 := hx199_13; have hw199_12 := hx199_12; have hw199_11 := hx199_11; have hw199_10 := hx199_10; have hw199_9 := hx199_9; have hw199_8 := hx199_8; have hw199_7 := hx199_7; have hw199_6 := hx199_6; have hw199_5 := hx199_5; have hw199_4 := hx199_4; have hw199_3 := hx199_3; have hw199_2 := hx199_2; have hw199_1 := hx199_1; have hw199_0 := hx199_0; cases e199; replace hx199_0 := (HB.out.cell (World.block_lt_of_cell? w _ hx199_0)).trans hx199_0; replace hx199_1 := (HB.out.cell (World.block_lt_of_cell? w _ hx199_1)).trans hx199_1; replace hx199_2 := (HB.out.cell (World.block_lt_of_cell? w _ hx199_2)).trans hx199_2; replace hx199_3 := (HB.out.cell (World.block_lt_of_cell? w _ hx199_3)).trans hx199_3; replace hx199_4 := (HB.out.cell (World.block_lt_of_cell? w _ hx199_4)).trans hx199_4; replace hx199_5 := (HB.out.cell (World.block_lt_of_cell? w _ hx199_5)).trans hx199_5; replace hx199_6 := (HB.out.cell (World.block_lt_of_cell? w _ hx199_6)).trans hx199_6; replace hx199_7 := (HB.out.cell (World.block_lt_of_cell? w _ hx199_7)).trans hx199_7; replace hx199_8 := (HB.out.cell (World.block_lt_of_cell? w _ hx199_8)).trans hx199_8; replace hx199_9 := (HB.out.cell (World.block_lt_of_cell? w _ hx199_9)).trans hx199_9; replace hx199_10 := (HB.out.cell (World.block_lt_of_cell? w _ hx199_10)).trans hx199_10; replace hx199_11 := (HB.out.cell (World.block_lt_of_cell? w _ hx199_11)).trans hx199_11; replace hx199_12 := (HB.out.cell (World.block_lt_of_cell? w _ hx199_12)).trans hx199_12
            replace hx199_13 := (HB.out.cell (World.block_lt_of_cell? w _ hx199_13)).trans hx199_13; have HR199_1 := Aside0.mk hi199_1; have HC199_1 := Aside0.mk hl199_1; clear hi199_1 hl199_1; have HR199_2 := Aside0.mk hi199_2; have HC199_2 := Aside0.mk hl199_2; clear hi199_2 hl199_2; have HR199_8 := Aside0.mk hi199_8; have HC199_8 := Aside0.mk hl199_8; clear hi199_8 hl199_8; have HR199_9 := Aside0.mk hi199_9; have HC199_9 := Aside0.mk hl199_9; clear hi199_9 hl199_9; replace p199 := eq_true p199; replace q199 := eq_true q199; have p10 : 0 ≤ (x13_1 : Int) := of_decide_eq_true (by first | (with_reducible assumption) | assumption); have q10 : (x13_1 : Int) < ((l0.length : Int) : Int) := of_decide_eq_true (by first | (with_reducible assumption) | assumption); replace p10 := eq_true p10; replace q10 := eq_true q10; have p11 : 0 ≤ (x13_1 : Int) := of_decide_eq_true (by first | (with_reducible assumption) | assumption); have q11 : (x13_1 : Int) < ((l1.length : Int) : Int) := of_decide_eq_true (by first | (with_reducible assumption) | assumption); replace p11 := eq_true p11; replace q11 := eq_true q11; have p14 : 0 ≤ (x13_1 : Int) := of_decide_eq_true (by first | (with_reducible assumption) | assumption); have q14 : (x13_1 : Int) < ((l0.length : Int) : Int) := of_decide_eq_true (by first | (with_reducible assumption) | assumption); replace p14 := eq_true p14; replace q14 := eq_true q14; have p15 : 0 ≤ (x13_1 : Int) := of_decide_eq_true (by first | (with_reducible assumption) | assumption)
            have q15 : (x13_1 : Int) < ((l1.length : Int) : Int) := of_decide_eq_true (by first | (with_reducible assumption) | assumption); replace p15 := eq_true p15; replace q15 := eq_true q15; refine start_ (n := 52) (S := fun w' => w'.cell? (ad198.add ((x13_1).toNat * 14)) = some (.int .i64 ((rd_T38 l0 x13_1).f0)) ∧ w'.cell? ⟨(ad198.add ((x13_1).toNat * 14)).block, (ad198.add ((x13_1).toNat * 14)).off + 1, none⟩ = some (.slice A198_1 ((rd_T38 l0 x13_1).f1.f0).length c198_1) ∧ w'.cell? ⟨(ad198.add ((x13_1).toNat * 14)).block, (ad198.add ((x13_1).toNat * 14)).off + 2, none⟩ = some (.slice A198_2 ((rd_T38 l0 x13_1).f1.f1).length c198_2) ∧ w'.cell? ⟨(ad198.add ((x13_1).toNat * 14)).block, (ad198.add ((x13_1).toNat * 14)).off + 3, none⟩ = some (.int .i64 ((rd_T38 l0 x13_1).f1.f2)) ∧ w'.cell? ⟨(ad198.add ((x13_1).toNat * 14)).block, (ad198.add ((x13_1).toNat * 14)).off + 4, none⟩ = some (.int .i64 ((rd_T38 l0 x13_1).f1.f3)) ∧ w'.cell? ⟨(ad198.add ((x13_1).toNat * 14)).block, (ad198.add ((x13_1).toNat * 14)).off + 5, none⟩ = some (.int .i64 ((rd_T38 l0 x13_1).f1.f4)) ∧ w'.cell? ⟨(ad198.add ((x13_1).toNat * 14)).block, (ad198.add ((x13_1).toNat * 14)).off + 6, none⟩ = some (.int .i64 ((rd_T38 l0 x13_1).f1.f5)) ∧ w'.cell? ⟨(ad198.add ((x13_1).toNat * 14)).block, (ad198.add ((x13_1).toNat * 14)).off + 7, none⟩ = some (.bool ((rd_T38 l0 x13_1).f2)) ∧ w'.cell? ⟨(ad198.add ((x13_1).toNat * 14)).block, (ad198.add ((x13_1).toNat * 14)).off + 8, none⟩ = some (.slice A198_8 ((rd_T38 l0 x13_1).f3.f0).length c198_8) ∧ w'.cell? ⟨(ad198.add ((x13_1).toNat * 14)).block, (ad198.add ((x13_1).toNat * 14)).off + 9, none⟩ = some (.slice A198_9 ((rd_T38 l0 x13_1).f3.f1).length c198_9) ∧ w'.cell? ⟨(ad198.add ((x13_1).toNat * 14)).block, (ad198.add ((x13_1).toNat * 14)).off + 10, none⟩ = some (.int .i64 ((rd_T38 l0 x13_1).f3.f2)) ∧ w'.cell? ⟨(ad198.add ((x13_1).toNat * 14)).block, (ad198.add ((x13_1).toNat * 14)).off + 11, none⟩ = some (.int .i64 ((rd_T38 l0 x13_1).f3.f3)) ∧ w'.cell? ⟨(ad198.add ((x13_1).toNat * 14)).block, (ad198.add ((x13_1).toNat * 14)).off + 12, none⟩ = some (.int .i64 ((rd_T38 l0 x13_1).f3.f4)) ∧ w'.cell? ⟨(ad198.add ((x13_1).toNat * 14)).block, (ad198.add ((x13_1).toNat * 14)).off + 13, none⟩ = some (.int .i64 ((rd_T38 l0 x13_1).f3.f5)) ∧ w'.cell? (ad199.add ((x13_1).toNat * 14)) = some (.int .i64 ((rd_T38 l1 x13_1).f0)) ∧ w'.cell? ⟨(ad199.add ((x13_1).toNat * 14)).block, (ad199.add ((x13_1).toNat * 14)).off + 1, none⟩ = some (.slice A199_1 ((rd_T38 l1 x13_1).f1.f0).length c199_1) ∧ w'.cell? ⟨(ad199.add ((x13_1).toNat * 14)).block, (ad199.add ((x13_1).toNat * 14)).off + 2, none⟩ = some (.slice A199_2 ((rd_T38 l1 x13_1).f1.f1).length c199_2) ∧ w'.cell? ⟨(ad199.add ((x13_1).toNat * 14)).block, (ad199.add ((x13_1).toNat * 14)).off + 3, none⟩ = some (.int .i64 ((rd_T38 l1 x13_1).f1.f2)) ∧ w'.cell? ⟨(ad199.add ((x13_1).toNat * 14)).block, (ad199.add ((x13_1).toNat * 14)).off + 4, none⟩ = some (.int .i64 ((rd_T38 l1 x13_1).f1.f3)) ∧ w'.cell? ⟨(ad199.add ((x13_1).toNat * 14)).block, (ad199.add ((x13_1).toNat * 14)).off + 5, none⟩ = some (.int .i64 ((rd_T38 l1 x13_1).f1.f4)) ∧ w'.cell? ⟨(ad199.add ((x13_1).toNat * 14)).block, (ad199.add ((x13_1).toNat * 14)).off + 6, none⟩ = some (.int .i64 ((rd_T38 l1 x13_1).f1.f5)) ∧ w'.cell? ⟨(ad199.add ((x13_1).toNat * 14)).block, (ad199.add ((x13_1).toNat * 14)).off + 7, none⟩ = some (.bool ((rd_T38 l1 x13_1).f2)) ∧ w'.cell? ⟨(ad199.add ((x13_1).toNat * 14)).block, (ad199.add ((x13_1).toNat * 14)).off + 8, none⟩ = some (.slice A199_8 ((rd_T38 l1 x13_1).f3.f0).length c199_8) ∧ w'.cell? ⟨(ad199.add ((x13_1).toNat * 14)).block, (ad199.add ((x13_1).toNat * 14)).off + 9, none⟩ = some (.slice A199_9 ((rd_T38 l1 x13_1).f3.f1).length c199_9) ∧ w'.cell? ⟨(ad199.add ((x13_1).toNat * 14)).block, (ad199.add ((x13_1).toNat * 14)).off + 10, none⟩ = some (.int .i64 ((rd_T38 l1 x13_1).f3.f2)) ∧ w'.cell? ⟨(ad199.add ((x13_1).toNat * 14)).block, (ad199.add ((x13_1).toNat * 14)).off + 11, none⟩ = some (.int .i64 ((rd_T38 l1 x13_1).f3.f3)) ∧ w'.cell? ⟨(ad199.add ((x13_1).toNat * 14)).block, (ad199.add ((x13_1).toNat * 14)).off + 12, none⟩ = some (.int .i64 ((rd_T38 l1 x13_1).f3.f4)) ∧ w'.cell? ⟨(ad199.add ((x13_1).toNat * 14)).block, (ad199.add ((x13_1).toNat * 14)).off + 13, none⟩ = some (.int .i64 ((rd_T38 l1 x13_1).f3.f5))) (ds := []) zb10_0 (by kernel_rfl) rfl rfl ⟨((HB.out.cell (World.block_lt_of_cell? w _ hw198_0)).trans hw198_0), ((HB.out.cell (World.block_lt_of_cell? w _ hw198_1)).trans hw198_1), ((HB.out.cell (World.block_lt_of_cell? w _ hw198_2)).trans hw198_2), ((HB.out.cell (World.block_lt_of_cell? w _ hw198_3)).trans hw198_3), ((HB.out.cell (World.block_lt_of_cell? w _ hw198_4)).trans hw198_4), ((HB.out.cell (World.block_lt_of_cell? w _ hw198_5)).trans hw198_5), ((HB.out.cell (World.block_lt_of_cell? w _ hw198_6)).trans hw198_6), ((HB.out.cell (World.block_lt_of_cell? w _ hw198_7)).trans hw198_7), ((HB.out.cell (World.block_lt_of_cell? w _ hw198_8)).trans hw198_8), ((HB.out.cell (World.block_lt_of_cell? w _ hw198_9)).trans hw198_9), ((HB.out.cell (World.block_lt_of_cell? w _ hw198_10)).trans hw198_10), ((HB.out.cell (World.block_lt_of_cell? w _ hw198_11)).trans hw198_11), ((HB.out.cell (World.block_lt_of_cell? w _ hw198_12)).trans hw198_12), ((HB.out.cell (World.block_lt_of_cell? w _ hw198_13)).trans hw198_13), ((HB.out.cell (World.block_lt_of_cell? w _ hw199_0)).trans hw199_0), ((HB.out.cell (World.block_lt_of_cell? w _ hw199_1)).trans hw199_1), ((HB.out.cell (World.block_lt_of_cell? w _ hw199_2)).trans hw199_2), ((HB.out.cell (World.block_lt_of_cell? w _ hw199_3)).trans hw199_3), ((HB.out.cell (World.block_lt_of_cell? w _ hw199_4)).trans hw199_4), ((HB.out.cell (World.block_lt_of_cell? w _ hw199_5)).trans hw199_5), ((HB.out.cell (World.block_lt_of_cell? w _ hw199_6)).trans hw199_6), ((HB.out.cell (World.block_lt_of_cell? w _ hw199_7)).trans hw199_7), ((HB.out.cell (World.block_lt_of_cell? w _ hw199_8)).trans hw199_8), ((HB.out.cell (World.block_lt_of_cell? w _ hw199_9)).trans hw199_9), ((HB.out.cell (World.block_lt_of_cell? w _ hw199_10)).trans hw199_10), ((HB.out.cell (World.block_lt_of_cell? w _ hw199_11)).trans hw199_11), ((HB.out.cell (World.block_lt_of_cell? w _ hw199_12)).trans hw199_12), ((HB.out.cell (World.block_lt_of_cell? w _ hw199_13)).trans hw199_13)⟩ (fun hHeld => ?_); refine with_tabW terrierref17_Same.tab6 terrierref17_Same.bits6 (fun HT_ HW_ => ?_)
            generalize wr.drew = w24 at HB HR198_1 HR198_2 HR198_8 HR198_9 HR199_1 HR199_2 HR199_8 HR199_9 hx198_0 hx198_1 hx198_10 hx198_11 hx198_12 hx198_13 hx198_2 hx198_3 hx198_4 hx198_5 hx198_6 hx198_7 hx198_8 hx198_9 hx199_0 hx199_1 hx199_10 hx199_11 hx199_12 hx199_13 hx199_2 hx199_3 hx199_4 hx199_5 hx199_6 hx199_7 hx199_8 hx199_9 hHeld ⊢; refine pure_ (i := 0) (N := some 16) (v := ?_) (a' := ?_) zb10_1 rfl rfl (any_of HT_.out (by kernel_rfl)) (fun _ _ _ h => h) (Or.inl ⟨by rfl, ?_⟩) ?_ ?_; rotate_left
            · intro w'; go_simp; with_reducible rfl
            rotate_left
            · simp only [Act.put, Ext.sb, Ext.sz, Ext.ss, i64_w, i32_w]; rfl
            refine pure_ (i := 1) (N := some 17) (v := ?_) (a' := ?_) zb10_2 rfl rfl (any_of HT_.out (by kernel_rfl)) (fun _ _ _ h => h) (Or.inl ⟨by rfl, ?_⟩) ?_ ?_; rotate_left
            · intro w'; go_simp; with_reducible rfl
            rotate_left
            · simp only [Act.put, Ext.sb, Ext.sz, Ext.ss, i64_w, i32_w]; rfl
            refine pure_ (i := 2) (N := some 18) (v := ?_) (a' := ?_) zb10_3 rfl rfl (any_of HT_.out (by kernel_rfl)) (fun _ _ _ h => h) (Or.inl ⟨by rfl, ?_⟩) ?_ ?_; rotate_left
            · intro w'; go_simp; with_reducible rfl
            rotate_left
            · simp only [Act.put, Ext.sb, Ext.sz, Ext.ss, i64_w, i32_w]; rfl
            refine pure_ (i := 3) (N := some 19) (v := ?_) (a' := ?_) zb10_4 rfl rfl (any_of HT_.out (by kernel_rfl)) (fun _ _ _ h => h) (Or.inl ⟨by rfl, ?_⟩) ?_ ?_; rotate_left
            · intro w'; go_simp; with_reducible rfl
            rotate_left
            · simp only [Act.put, Ext.sb, Ext.sz, Ext.ss, i64_w, i32_w]; rfl
            refine pure_ (i := 5) (N := some 21) (v := ?_) (a' := ?_) zb10_5 rfl rfl (any_of HT_.out (by kernel_rfl)) (fun _ _ _ h => h) (Or.inl ⟨by rfl, ?_⟩) ?_ ?_; rotate_left
            · intro w'; go_simp; with_reducible rfl
            rotate_left
            · simp only [Act.put, Ext.sb, Ext.sz, Ext.ss, i64_w, i32_w]; rfl
            refine pure_ (i := 6) (N := some 22) (v := ?_) (a' := ?_) zb10_6 rfl rfl (any_of HT_.out (by kernel_rfl)) (fun _ _ _ h => h) (Or.inl ⟨by rfl, ?_⟩) ?_ ?_; rotate_left
            · intro w'; go_simp; with_reducible rfl
            rotate_left
            · simp only [Act.put, Ext.sb, Ext.sz, Ext.ss, i64_w, i32_w]; rfl
            refine pure_ (i := 7) (N := some 23) (v := ?_) (a' := ?_) zb10_7 rfl rfl (any_of HT_.out (by kernel_rfl)) (fun _ _ _ h => h) (Or.inl ⟨by rfl, ?_⟩) ?_ ?_; rotate_left
            · intro w'; go_simp; with_reducible rfl
            rotate_left
            · simp only [Act.put, Ext.sb, Ext.sz, Ext.ss, i64_w, i32_w]; rfl
            refine pure_ (i := 8) (N := some 24) (v := ?_) (a' := ?_) zb10_8 rfl rfl (any_of HT_.out (by kernel_rfl)) (fun _ _ _ h => h) (Or.inl ⟨by rfl, ?_⟩) ?_ ?_; rotate_left
            · intro w'; go_simp; with_reducible rfl
            rotate_left
            · simp only [Act.put, Ext.sb, Ext.sz, Ext.ss, i64_w, i32_w]; rfl
            refine take_ (i := 4) (N := some 20) (v := ?_) (a' := ?_) zb10_9 rfl rfl (take_ofW HT_.out HW_.out (by kernel_rfl)) (fun _ _ _ h => h) (Or.inl ⟨by rfl, ?_⟩) hHeld ?_ ?_; rotate_left
            · rintro w' ⟨s0, s1, s2, s3, s4, s5, s6, s7, s8, s9, s10, s11, s12, s13, s14, s15, s16, s17, s18, s19, s20, s21, s22, s23, s24, s25, s26, s27⟩; go_simp; with_reducible rfl
            rotate_left
            · simp only [Act.put, Ext.sb, Ext.sz, Ext.ss, i64_w, i32_w]; rfl
            refine take_ (i := 9) (N := some 25) (v := ?_) (a' := ?_) zb10_10 rfl rfl (take_ofW HT_.out HW_.out (by kernel_rfl)) (fun _ _ _ h => h) (Or.inl ⟨by rfl, ?_⟩) hHeld ?_ ?_; rotate_left
            · rintro w' ⟨s0, s1, s2, s3, s4, s5, s6, s7, s8, s9, s10, s11, s12, s13, s14, s15, s16, s17, s18, s19, s20, s21, s22, s23, s24, s25, s26, s27⟩; go_simp; with_reducible rfl
            rotate_left
            · simp only [Act.put, Ext.sb, Ext.sz, Ext.ss, i64_w, i32_w]; rfl
            refine pure_ (i := 10) (N := some 26) (v := ?_) (a' := ?_) zb10_11 rfl rfl (any_of HT_.out (by kernel_rfl)) (fun _ _ _ h => h) (Or.inl ⟨by rfl, ?_⟩) ?_ ?_; rotate_left
            · intro w'; go_simp; with_reducible rfl
            rotate_left
            · simp only [Act.put, Ext.sb, Ext.sz, Ext.ss, i64_w, i32_w]; rfl
            refine pure_ (i := 11) (N := some 27) (v := ?_) (a' := ?_) zb10_12 rfl rfl (any_of HT_.out (by kernel_rfl)) (fun _ _ _ h => h) (Or.inl ⟨by rfl, ?_⟩) ?_ ?_; rotate_left
            · intro w'; go_simp; with_reducible rfl
            rotate_left
            · simp only [Act.put, Ext.sb, Ext.sz, Ext.ss, i64_w, i32_w]; rfl
            refine pure_ (i := 12) (N := some 28) (v := ?_) (a' := ?_) zb10_13 rfl rfl (any_of HT_.out (by kernel_rfl)) (fun _ _ _ h => h) (Or.inl ⟨by rfl, ?_⟩) ?_ ?_; rotate_left
            · intro w'; go_simp; with_reducible rfl
            rotate_left
            · simp only [Act.put, Ext.sb, Ext.sz, Ext.ss, i64_w, i32_w]; rfl
            refine pure_ (i := 13) (N := some 29) (v := ?_) (a' := ?_) zb10_14 rfl rfl (any_of HT_.out (by kernel_rfl)) (fun _ _ _ h => h) (Or.inl ⟨by rfl, ?_⟩) ?_ ?_; rotate_left
            · intro w'; go_simp; with_reducible rfl
            rotate_left
            · simp only [Act.put, Ext.sb, Ext.sz, Ext.ss, i64_w, i32_w]; rfl
            refine pure_ (i := 14) (N := some 30) (v := ?_) (a' := ?_) zb10_15 rfl rfl (any_of HT_.out (by kernel_rfl)) (fun _ _ _ h => h) (Or.inl ⟨by rfl, ?_⟩) ?_ ?_; rotate_left
            · intro w'; go_simp; with_reducible rfl
            rotate_left
            · simp only [Act.put, Ext.sb, Ext.sz, Ext.ss, i64_w, i32_w]; rfl
            refine pure_ (i := 15) (N := some 31) (v := ?_) (a' := ?_) zb10_16 rfl rfl (any_of HT_.out (by kernel_rfl)) (fun _ _ _ h => h) (Or.inl ⟨by rfl, ?_⟩) ?_ ?_; rotate_left
            · intro w'; go_simp; with_reducible rfl
            rotate_left
            · simp only [Act.put, Ext.sb, Ext.sz, Ext.ss, i64_w, i32_w]; rfl
            refine pure_ (i := 17) (N := some 33) (v := ?_) (a' := ?_) zb10_41 rfl rfl (any_of HT_.out (by kernel_rfl)) (fun _ _ _ h => h) (Or.inl ⟨by rfl, ?_⟩) ?_ ?_; rotate_left
            · intro w'; go_simp; with_reducible rfl
            rotate_left
            · simp only [Act.put, Ext.sb, Ext.sz, Ext.ss, i64_w, i32_w]; rfl
            refine pure_ (i := 18) (N := some 34) (v := ?_) (a' := ?_) zb10_42 rfl rfl (any_of HT_.out (by kernel_rfl)) (fun _ _ _ h => h) (Or.inl ⟨by rfl, ?_⟩) ?_ ?_; rotate_left
            · intro w'; go_simp; with_reducible rfl
            rotate_left
            · simp only [Act.put, Ext.sb, Ext.sz, Ext.ss, i64_w, i32_w]; rfl
            refine pure_ (i := 19) (N := some 35) (v := ?_) (a' := ?_) zb10_43 rfl rfl (any_of HT_.out (by kernel_rfl)) (fun _ _ _ h => h) (Or.inl ⟨by rfl, ?_⟩) ?_ ?_; rotate_left
            · intro w'; go_simp; with_reducible rfl
            rotate_left
            · simp only [Act.put, Ext.sb, Ext.sz, Ext.ss, i64_w, i32_w]; rfl
            refine pure_ (i := 20) (N := some 36) (v := ?_) (a' := ?_) zb10_44 rfl rfl (any_of HT_.out (by kernel_rfl)) (fun _ _ _ h => h) (Or.inl ⟨by rfl, ?_⟩) ?_ ?_; rotate_left
            · intro w'; go_simp; with_reducible rfl
            rotate_left
            · simp only [Act.put, Ext.sb, Ext.sz, Ext.ss, i64_w, i32_w]; rfl
            refine take_ (i := 16) (N := some 32) (v := ?_) (a' := ?_) zb10_17 rfl rfl (take_ofW HT_.out HW_.out (by kernel_rfl)) (fun _ _ _ h => h) (Or.inl ⟨by rfl, ?_⟩) hHeld ?_ ?_; rotate_left
            · rintro w' ⟨s0, s1, s2, s3, s4, s5, s6, s7, s8, s9, s10, s11, s12, s13, s14, s15, s16, s17, s18, s19, s20, s21, s22, s23, s24, s25, s26, s27⟩; go_simp; with_reducible rfl
            rotate_left
            · simp only [Act.put, Ext.sb, Ext.sz, Ext.ss, i64_w, i32_w]; rfl
            refine take_ (i := 21) (N := some 37) (v := ?_) (a' := ?_) zb10_18 rfl rfl (take_ofW HT_.out HW_.out (by kernel_rfl)) (fun _ _ _ h => h) (Or.inl ⟨by rfl, ?_⟩) hHeld ?_ ?_; rotate_left
            · rintro w' ⟨s0, s1, s2, s3, s4, s5, s6, s7, s8, s9, s10, s11, s12, s13, s14, s15, s16, s17, s18, s19, s20, s21, s22, s23, s24, s25, s26, s27⟩; go_simp; with_reducible rfl
            rotate_left
            · simp only [Act.put, Ext.sb, Ext.sz, Ext.ss, i64_w, i32_w]; rfl
            refine pure_ (i := 22) (N := some 38) (v := ?_) (a' := ?_) zb10_19 rfl rfl (any_of HT_.out (by kernel_rfl)) (fun _ _ _ h => h) (Or.inl ⟨by rfl, ?_⟩) ?_ ?_; rotate_left
            · intro w'; go_simp; with_reducible rfl
            rotate_left
            · simp only [Act.put, Ext.sb, Ext.sz, Ext.ss, i64_w, i32_w]; rfl
            refine pure_ (i := 23) (N := some 39) (v := ?_) (a' := ?_) zb10_20 rfl rfl (any_of HT_.out (by kernel_rfl)) (fun _ _ _ h => h) (Or.inl ⟨by rfl, ?_⟩) ?_ ?_; rotate_left
            · intro w'; go_simp; with_reducible rfl
            rotate_left
            · simp only [Act.put, Ext.sb, Ext.sz, Ext.ss, i64_w, i32_w]; rfl
            refine pure_ (i := 24) (N := some 40) (v := ?_) (a' := ?_) zb10_21 rfl rfl (any_of HT_.out (by kernel_rfl)) (fun _ _ _ h => h) (Or.inl ⟨by rfl, ?_⟩) ?_ ?_; rotate_left
            · intro w'; go_simp; with_reducible rfl
            rotate_left
            · simp only [Act.put, Ext.sb, Ext.sz, Ext.ss, i64_w, i32_w]; rfl
            refine pure_ (i := 25) (N := some 41) (v := ?_) (a' := ?_) zb10_22 rfl rfl (any_of HT_.out (by kernel_rfl)) (fun _ _ _ h => h) (Or.inl ⟨by rfl, ?_⟩) ?_ ?_; rotate_left
            · intro w'; go_simp; with_reducible rfl
            rotate_left
            · simp only [Act.put, Ext.sb, Ext.sz, Ext.ss, i64_w, i32_w]; rfl
            refine pure_ (i := 26) (N := some 42) (v := ?_) (a' := ?_) zb10_23 rfl rfl (any_of HT_.out (by kernel_rfl)) (fun _ _ _ h => h) (Or.inl ⟨by rfl, ?_⟩) ?_ ?_; rotate_left
            · intro w'; go_simp; with_reducible rfl
            rotate_left
            · simp only [Act.put, Ext.sb, Ext.sz, Ext.ss, i64_w, i32_w]; rfl
            refine pure_ (i := 27) (N := some 43) (v := ?_) (a' := ?_) zb10_24 rfl rfl (any_of HT_.out (by kernel_rfl)) (fun _ _ _ h => h) (Or.inl ⟨by rfl, ?_⟩) ?_ ?_; rotate_left
            · intro w'; go_simp; with_reducible rfl
            rotate_left
            · simp only [Act.put, Ext.sb, Ext.sz, Ext.ss, i64_w, i32_w]; rfl
            refine pure_ (i := 28) (N := some 44) (v := ?_) (a' := ?_) zb10_25 rfl rfl (any_of HT_.out (by kernel_rfl)) (fun _ _ _ h => h) (Or.inl ⟨by rfl, ?_⟩) ?_ ?_; rotate_left
            · intro w'; go_simp; with_reducible rfl
            rotate_left
            · simp only [Act.put, Ext.sb, Ext.sz, Ext.ss, i64_w, i32_w]; rfl
            refine pure_ (i := 30) (N := some 46) (v := ?_) (a' := ?_) zb10_50 rfl rfl (any_of HT_.out (by kernel_rfl)) (fun _ _ _ h => h) (Or.inl ⟨by rfl, ?_⟩) ?_ ?_; rotate_left
            · intro w'; go_simp; with_reducible rfl
            rotate_left
            · simp only [Act.put, Ext.sb, Ext.sz, Ext.ss, i64_w, i32_w]; rfl
            refine pure_ (i := 31) (N := some 47) (v := ?_) (a' := ?_) zb10_52 rfl rfl (any_of HT_.out (by kernel_rfl)) (fun _ _ _ h => h) (Or.inl ⟨by rfl, ?_⟩) ?_ ?_; rotate_left
            · intro w'; go_simp; with_reducible rfl
            rotate_left
            · simp only [Act.put, Ext.sb, Ext.sz, Ext.ss, i64_w, i32_w]; rfl
            refine pure_ (i := 32) (N := some 48) (v := ?_) (a' := ?_) zb10_54 rfl rfl (any_of HT_.out (by kernel_rfl)) (fun _ _ _ h => h) (Or.inl ⟨by rfl, ?_⟩) ?_ ?_; rotate_left
            · intro w'; go_simp; with_reducible rfl
            rotate_left
            · simp only [Act.put, Ext.sb, Ext.sz, Ext.ss, i64_w, i32_w]; rfl
            refine pure_ (i := 33) (N := some 49) (v := ?_) (a' := ?_) zb10_56 rfl rfl (any_of HT_.out (by kernel_rfl)) (fun _ _ _ h => h) (Or.inl ⟨by rfl, ?_⟩) ?_ ?_; rotate_left
            · intro w'; go_simp; with_reducible rfl
            rotate_left
            · simp only [Act.put, Ext.sb, Ext.sz, Ext.ss, i64_w, i32_w]; rfl
            refine take_ (i := 29) (N := some 45) (v := ?_) (a' := ?_) zb10_26 rfl rfl (take_ofW HT_.out HW_.out (by kernel_rfl)) (fun _ _ _ h => h) (Or.inl ⟨by rfl, ?_⟩) hHeld ?_ ?_; rotate_left
            · rintro w' ⟨s0, s1, s2, s3, s4, s5, s6, s7, s8, s9, s10, s11, s12, s13, s14, s15, s16, s17, s18, s19, s20, s21, s22, s23, s24, s25, s26, s27⟩; go_simp; with_reducible rfl
            rotate_left
            · simp only [Act.put, Ext.sb, Ext.sz, Ext.ss, i64_w, i32_w]; rfl
            refine take_ (i := 34) (N := some 50) (v := ?_) (a' := ?_) zb10_27 rfl rfl (take_ofW HT_.out HW_.out (by kernel_rfl)) (fun _ _ _ h => h) (Or.inl ⟨by rfl, ?_⟩) hHeld ?_ ?_; rotate_left
            · rintro w' ⟨s0, s1, s2, s3, s4, s5, s6, s7, s8, s9, s10, s11, s12, s13, s14, s15, s16, s17, s18, s19, s20, s21, s22, s23, s24, s25, s26, s27⟩; go_simp; with_reducible rfl
            rotate_left
            · simp only [Act.put, Ext.sb, Ext.sz, Ext.ss, i64_w, i32_w]; rfl
            refine one_ (i := 35) (N := some 51) zb10_28 rfl rfl (one_of HT_.out (by kernel_rfl)) (by decide) (fun K hK => ?_); refine goes_ Try.func22 (by kernel_rfl) rfl #[.agg #[.slice A198_1 ((rd_T38 l0 x13_1).f1.f0).length c198_1, .slice A198_2 ((rd_T38 l0 x13_1).f1.f1).length c198_2, .int .i64 ((rd_T38 l0 x13_1).f1.f2), .int .i64 ((rd_T38 l0 x13_1).f1.f3), .int .i64 ((rd_T38 l0 x13_1).f1.f4), .int .i64 ((rd_T38 l0 x13_1).f1.f5)], .agg #[.slice A199_1 ((rd_T38 l1 x13_1).f1.f0).length c199_1, .slice A199_2 ((rd_T38 l1 x13_1).f1.f1).length c199_2, .int .i64 ((rd_T38 l1 x13_1).f1.f2), .int .i64 ((rd_T38 l1 x13_1).f1.f3), .int .i64 ((rd_T38 l1 x13_1).f1.f4), .int .i64 ((rd_T38 l1 x13_1).f1.f5)]] (by rfl) rfl rfl (by (try simp only [List.map_toArray, List.map_cons, List.map_nil]); first | done | rfl | (simp only [List.length_drop, List.length_take]; rfl)) ?_
            with_reducible refine (terrierref13_Same.calls _ _ ((rd_T38 l0 x13_1).f1.f0) _ _ ((rd_T38 l0 x13_1).f1.f1) ((rd_T38 l0 x13_1).f1.f2) ((rd_T38 l0 x13_1).f1.f3) ((rd_T38 l0 x13_1).f1.f4) ((rd_T38 l0 x13_1).f1.f5) _ _ ((rd_T38 l1 x13_1).f1.f0) _ _ ((rd_T38 l1 x13_1).f1.f1) ((rd_T38 l1 x13_1).f1.f2) ((rd_T38 l1 x13_1).f1.f3) ((rd_T38 l1 x13_1).f1.f4) ((rd_T38 l1 x13_1).f1.f5) false _ ?side1 ?side2 ?side3 ?side4 ?side5 ?side6 ?side7 ?side8 A16.out).mono ?_
            (case side1 => first | exact Ext.kC HR198_1.out HB.out | exact Ext.nC HR198_1.out)
            (case side2 => exact HC198_1.out)
            (case side3 => first | exact Ext.kC HR198_2.out HB.out | exact Ext.nC HR198_2.out)
            (case side4 => exact HC198_2.out)
            (case side5 => first | exact Ext.kC HR199_1.out HB.out | exact Ext.nC HR199_1.out)
            (case side6 => exact HC199_1.out)
            (case side7 => first | exact Ext.kC HR199_2.out HB.out | exact Ext.nC HR199_2.out)
            (case side8 => exact HC199_2.out)
            rintro e w25 ⟨rfl, hb⟩; refine ⟨_, rfl, ?_⟩; replace HB := Ext.a (below_step (Ext.nB HB.out) hb); (try clear hb); refine hK.out _ _ ⟨((HB.out.cell (World.block_lt_of_cell? w _ hw198_0)).trans hw198_0), ((HB.out.cell (World.block_lt_of_cell? w _ hw198_1)).trans hw198_1), ((HB.out.cell (World.block_lt_of_cell? w _ hw198_2)).trans hw198_2), ((HB.out.cell (World.block_lt_of_cell? w _ hw198_3)).trans hw198_3), ((HB.out.cell (World.block_lt_of_cell? w _ hw198_4)).trans hw198_4), ((HB.out.cell (World.block_lt_of_cell? w _ hw198_5)).trans hw198_5), ((HB.out.cell (World.block_lt_of_cell? w _ hw198_6)).trans hw198_6), ((HB.out.cell (World.block_lt_of_cell? w _ hw198_7)).trans hw198_7), ((HB.out.cell (World.block_lt_of_cell? w _ hw198_8)).trans hw198_8), ((HB.out.cell (World.block_lt_of_cell? w _ hw198_9)).trans hw198_9), ((HB.out.cell (World.block_lt_of_cell? w _ hw198_10)).trans hw198_10), ((HB.out.cell (World.block_lt_of_cell? w _ hw198_11)).trans hw198_11), ((HB.out.cell (World.block_lt_of_cell? w _ hw198_12)).trans hw198_12), ((HB.out.cell (World.block_lt_of_cell? w _ hw198_13)).trans hw198_13), ((HB.out.cell (World.block_lt_of_cell? w _ hw199_0)).trans hw199_0), ((HB.out.cell (World.block_lt_of_cell? w _ hw199_1)).trans hw199_1), ((HB.out.cell (World.block_lt_of_cell? w _ hw199_2)).trans hw199_2), ((HB.out.cell (World.block_lt_of_cell? w _ hw199_3)).trans hw199_3), ((HB.out.cell (World.block_lt_of_cell? w _ hw199_4)).trans hw199_4), ((HB.out.cell (World.block_lt_of_cell? w _ hw199_5)).trans hw199_5), ((HB.out.cell (World.block_lt_of_cell? w _ hw199_6)).trans hw199_6), ((HB.out.cell (World.block_lt_of_cell? w _ hw199_7)).trans hw199_7), ((HB.out.cell (World.block_lt_of_cell? w _ hw199_8)).trans hw199_8), ((HB.out.cell (World.block_lt_of_cell? w _ hw199_9)).trans hw199_9), ((HB.out.cell (World.block_lt_of_cell? w _ hw199_10)).trans hw199_10), ((HB.out.cell (World.block_lt_of_cell? w _ hw199_11)).trans hw199_11), ((HB.out.cell (World.block_lt_of_cell? w _ hw199_12)).trans hw199_12), ((HB.out.cell (World.block_lt_of_cell? w _ hw199_13)).trans hw199_13)⟩ (fun hHeld => ?_)
            clear hK K; refine norm_ (a' := ?_) ?_ ?_; rotate_left
            · show Act.put _ (some 51) _ = _; simp only [Act.put, Ext.sb, Ext.sz, Ext.ss, i64_w, i32_w]; rfl
            refine pure_ (i := 36) (N := some 52) (v := ?_) (a' := ?_) zb10_29 rfl rfl (any_of HT_.out (by kernel_rfl)) (fun _ _ _ h => h) (Or.inl ⟨by rfl, ?_⟩) ?_ ?_; rotate_left
            · intro w'; go_simp; with_reducible rfl
            rotate_left
            · simp only [Act.put, Ext.sb, Ext.sz, Ext.ss, i64_w, i32_w]; rfl
            refine pure_ (i := 37) (N := some 53) (v := ?_) (a' := ?_) zb10_30 rfl rfl (any_of HT_.out (by kernel_rfl)) (fun _ _ _ h => h) (Or.inl ⟨by rfl, ?_⟩) ?_ ?_; rotate_left
            · intro w'; go_simp; with_reducible rfl
            rotate_left
            · simp only [Act.put, Ext.sb, Ext.sz, Ext.ss, i64_w, i32_w]; rfl
            refine pure_ (i := 38) (N := some 54) (v := ?_) (a' := ?_) zb10_31 rfl rfl (any_of HT_.out (by kernel_rfl)) (fun _ _ _ h => h) (Or.inl ⟨by rfl, ?_⟩) ?_ ?_; rotate_left
            · intro w'; go_simp; with_reducible rfl
            rotate_left
            · simp only [Act.put, Ext.sb, Ext.sz, Ext.ss, i64_w, i32_w]; rfl
            refine pure_ (i := 39) (N := some 55) (v := undef) (a' := ?_) zb10_32 rfl rfl (any_of HT_.out (by kernel_rfl)) (fun _ _ _ h => h) (Or.inr ⟨by rfl, rfl⟩) ?_ ?_; rotate_left
            · simp only [Act.put, Ext.sb, Ext.sz, Ext.ss, i64_w, i32_w]; rfl
            refine pure_ (i := 40) (N := some 56) (v := undef) (a' := ?_) zb10_33 rfl rfl (any_of HT_.out (by kernel_rfl)) (fun _ _ _ h => h) (Or.inr ⟨by rfl, rfl⟩) ?_ ?_; rotate_left
            · simp only [Act.put, Ext.sb, Ext.sz, Ext.ss, i64_w, i32_w]; rfl
            refine pure_ (i := 41) (N := some 57) (v := undef) (a' := ?_) zb10_34 rfl rfl (any_of HT_.out (by kernel_rfl)) (fun _ _ _ h => h) (Or.inr ⟨by rfl, rfl⟩) ?_ ?_; rotate_left
            · simp only [Act.put, Ext.sb, Ext.sz, Ext.ss, i64_w, i32_w]; rfl
            refine pure_ (i := 42) (N := some 58) (v := undef) (a' := ?_) zb10_35 rfl rfl (any_of HT_.out (by kernel_rfl)) (fun _ _ _ h => h) (Or.inr ⟨by rfl, rfl⟩) ?_ ?_; rotate_left
            · simp only [Act.put, Ext.sb, Ext.sz, Ext.ss, i64_w, i32_w]; rfl
            refine pure_ (i := 43) (N := some 59) (v := undef) (a' := ?_) zb10_45 rfl rfl (any_of HT_.out (by kernel_rfl)) (fun _ _ _ h => h) (Or.inr ⟨by rfl, rfl⟩) ?_ ?_; rotate_left
            · simp only [Act.put, Ext.sb, Ext.sz, Ext.ss, i64_w, i32_w]; rfl
            refine pure_ (i := 44) (N := some 60) (v := undef) (a' := ?_) zb10_46 rfl rfl (any_of HT_.out (by kernel_rfl)) (fun _ _ _ h => h) (Or.inr ⟨by rfl, rfl⟩) ?_ ?_; rotate_left
            · simp only [Act.put, Ext.sb, Ext.sz, Ext.ss, i64_w, i32_w]; rfl
            refine pure_ (i := 45) (N := some 61) (v := undef) (a' := ?_) zb10_47 rfl rfl (any_of HT_.out (by kernel_rfl)) (fun _ _ _ h => h) (Or.inr ⟨by rfl, rfl⟩) ?_ ?_; rotate_left
            · simp only [Act.put, Ext.sb, Ext.sz, Ext.ss, i64_w, i32_w]; rfl
            refine pure_ (i := 46) (N := some 62) (v := undef) (a' := ?_) zb10_48 rfl rfl (any_of HT_.out (by kernel_rfl)) (fun _ _ _ h => h) (Or.inr ⟨by rfl, rfl⟩) ?_ ?_; rotate_left
            · simp only [Act.put, Ext.sb, Ext.sz, Ext.ss, i64_w, i32_w]; rfl
            refine pure_ (i := 47) (N := some 63) (v := undef) (a' := ?_) zb10_36 rfl rfl (any_of HT_.out (by kernel_rfl)) (fun _ _ _ h => h) (Or.inr ⟨by rfl, rfl⟩) ?_ ?_; rotate_left
            · simp only [Act.put, Ext.sb, Ext.sz, Ext.ss, i64_w, i32_w]; rfl
            refine pure_ (i := 48) (N := some 64) (v := undef) (a' := ?_) zb10_37 rfl rfl (any_of HT_.out (by kernel_rfl)) (fun _ _ _ h => h) (Or.inr ⟨by rfl, rfl⟩) ?_ ?_; rotate_left
            · simp only [Act.put, Ext.sb, Ext.sz, Ext.ss, i64_w, i32_w]; rfl
            refine pure_ (i := 49) (N := some 65) (v := undef) (a' := ?_) zb10_38 rfl rfl (any_of HT_.out (by kernel_rfl)) (fun _ _ _ h => h) (Or.inr ⟨by rfl, rfl⟩) ?_ ?_; rotate_left
            · simp only [Act.put, Ext.sb, Ext.sz, Ext.ss, i64_w, i32_w]; rfl
            refine pure_ (i := 50) (N := some 66) (v := undef) (a' := ?_) zb10_39 rfl rfl (any_of HT_.out (by kernel_rfl)) (fun _ _ _ h => h) (Or.inr ⟨by rfl, rfl⟩) ?_ ?_; rotate_left
            · simp only [Act.put, Ext.sb, Ext.sz, Ext.ss, i64_w, i32_w]; rfl
            refine pure_ (i := 51) (N := some 67) (v := ?_) (a' := ?_) zb10_40 rfl rfl (any_of HT_.out (by kernel_rfl)) (fun _ _ _ h => h) (Or.inl ⟨by rfl, ?_⟩) ?_ ?_; rotate_left
            · intro w'; go_simp; with_reducible rfl
            rotate_left
            · simp only [Act.put, Ext.sb, Ext.sz, Ext.ss, i64_w, i32_w]; rfl
            refine done_ (done_of HT_.out (by kernel_rfl)) ?_
            try go_wp2
            go_meet
            case rel => exact ⟨_, (true), (by first | rfl | (simp; done) | (simp [*]; done)), H', ⟨by have := HK1.out; first | omega | exact Nat.le_refl _⟩, ⟨by exact Ext.nB HB.out⟩⟩
         ·
          rw [if_neg c9] at H; obtain ⟨c9b0, c9b1⟩ := Ext.eF c9; have H' := Aside0.mk H; clear H
          try go_wp2
          replace HB := Ext.a (below_drew1 HB.out); have p198 : 0 ≤ (x13_1 : Int) := of_decide_eq_true (by first | (with_reducible assumption) | assumption); have q198 : x13_1 < (l0.length : Int) := of_decide_eq_true (by first | (with_reducible assumption) | assumption); obtain ⟨ad198, A198_1, c198_1, A198_2, c198_2, A198_8, c198_8, A198_9, c198_9, e198, hx198_0, hx198_1, hx198_2, hx198_3, hx198_4, hx198_5, hx198_6, hx198_7, hx198_8, hx198_9, hx198_10, hx198_11, hx198_12, hx198_13, hl198_1, hi198_1, hl198_2, hi198_2, hl198_8, hi198_8, hl198_9, hi198_9⟩ := at_T38 HR0.out x13_1 p198 q198; have hw198_13 := hx198_13; have hw198_12 := hx198_12; have hw198_11 := hx198_11; have hw198_10 := hx198_10; have hw198_9 := hx198_9; have hw198_8 := hx198_8; have hw198_7 := hx198_7; have hw198_6 := hx198_6; have hw198_5 := hx198_5; have hw198_4 := hx198_4; have hw198_3 := hx198_3; have hw198_2 := hx198_2; have hw198_1 := hx198_1; have hw198_0 := hx198_0; cases e198; replace hx198_0 := (HB.out.cell (World.block_lt_of_cell? w _ hx198_0)).trans hx198_0; replace hx198_1 := (HB.out.cell (World.block_lt_of_cell? w _ hx198_1)).trans hx198_1; replace hx198_2 := (HB.out.cell (World.block_lt_of_cell? w _ hx198_2)).trans hx198_2; replace hx198_3 := (HB.out.cell (World.block_lt_of_cell? w _ hx198_3)).trans hx198_3; replace hx198_4 := (HB.out.cell (World.block_lt_of_cell? w _ hx198_4)).trans hx198_4; replace hx198_5 := (HB.out.cell (World.block_lt_of_cell? w _ hx198_5)).trans hx198_5; replace hx198_6 := (HB.out.cell (World.block_lt_of_cell? w _ hx198_6)).trans hx198_6
          replace hx198_7 := (HB.out.cell (World.block_lt_of_cell? w _ hx198_7)).trans hx198_7; replace hx198_8 := (HB.out.cell (World.block_lt_of_cell? w _ hx198_8)).trans hx198_8; replace hx198_9 := (HB.out.cell (World.block_lt_of_cell? w _ hx198_9)).trans hx198_9; replace hx198_10 := (HB.out.cell (World.block_lt_of_cell? w _ hx198_10)).trans hx198_10; replace hx198_11 := (HB.out.cell (World.block_lt_of_cell? w _ hx198_11)).trans hx198_11; replace hx198_12 := (HB.out.cell (World.block_lt_of_cell? w _ hx198_12)).trans hx198_12; replace hx198_13 := (HB.out.cell (World.block_lt_of_cell? w _ hx198_13)).trans hx198_13; have HR198_1 := Aside0.mk hi198_1; have HC198_1 := Aside0.mk hl198_1; clear hi198_1 hl198_1; have HR198_2 := Aside0.mk hi198_2; have HC198_2 := Aside0.mk hl198_2; clear hi198_2 hl198_2; have HR198_8 := Aside0.mk hi198_8; have HC198_8 := Aside0.mk hl198_8; clear hi198_8 hl198_8; have HR198_9 := Aside0.mk hi198_9; have HC198_9 := Aside0.mk hl198_9; clear hi198_9 hl198_9; replace p198 := eq_true p198; replace q198 := eq_true q198; have p199 : 0 ≤ (x13_1 : Int) := of_decide_eq_true (by first | (with_reducible assumption) | assumption); have q199 : x13_1 < (l1.length : Int) := of_decide_eq_true (by first | (with_reducible assumption) | assumption); obtain ⟨ad199, A199_1, c199_1, A199_2, c199_2, A199_8, c199_8, A199_9, c199_9, e199, hx199_0, hx199_1, hx199_2, hx199_3, hx199_4, hx199_5, hx199_6, hx199_7, hx199_8, hx199_9, hx199_10, hx199_11, hx199_12, hx199_13, hl199_1, hi199_1, hl199_2, hi199_2, hl199_8, hi199_8, hl199_9, hi199_9⟩ := at_T38 HR1.out x13_1 p199 q199
          have hw199_13 := hx199_13; have hw199_12 := hx199_12; have hw199_11 := hx199_11; have hw199_10 := hx199_10; have hw199_9 := hx199_9; have hw199_8 := hx199_8; have hw199_7 := hx199_7; have hw199_6 := hx199_6; have hw199_5 := hx199_5; have hw199_4 := hx199_4; have hw199_3 := hx199_3; have hw199_2 := hx199_2; have hw199_1 := hx199_1; have hw199_0 := hx199_0; cases e199; replace hx199_0 := (HB.out.cell (World.block_lt_of_cell? w _ hx199_0)).trans hx199_0; replace hx199_1 := (HB.out.cell (World.block_lt_of_cell? w _ hx199_1)).trans hx199_1; replace hx199_2 := (HB.out.cell (World.block_lt_of_cell? w _ hx199_2)).trans hx199_2; replace hx199_3 := (HB.out.cell (World.block_lt_of_cell? w _ hx199_3)).trans hx199_3; replace hx199_4 := (HB.out.cell (World.block_lt_of_cell? w _ hx199_4)).trans hx199_4; replace hx199_5 := (HB.out.cell (World.block_lt_of_cell? w _ hx199_5)).trans hx199_5; replace hx199_6 := (HB.out.cell (World.block_lt_of_cell? w _ hx199_6)).trans hx199_6; replace hx199_7 := (HB.out.cell (World.block_lt_of_cell? w _ hx199_7)).trans hx199_7; replace hx199_8 := (HB.out.cell (World.block_lt_of_cell? w _ hx199_8)).trans hx199_8; replace hx199_9 := (HB.out.cell (World.block_lt_of_cell? w _ hx199_9)).trans hx199_9; replace hx199_10 := (HB.out.cell (World.block_lt_of_cell? w _ hx199_10)).trans hx199_10; replace hx199_11 := (HB.out.cell (World.block_lt_of_cell? w _ hx199_11)).trans hx199_11; replace hx199_12 := (HB.out.cell (World.block_lt_of_cell? w _ hx199_12)).trans hx199_12
          replace hx199_13 := (HB.out.cell (World.block_lt_of_cell? w _ hx199_13)).trans hx199_13; have HR199_1 := Aside0.mk hi199_1; have HC199_1 := Aside0.mk hl199_1; clear hi199_1 hl199_1; have HR199_2 := Aside0.mk hi199_2; have HC199_2 := Aside0.mk hl199_2; clear hi199_2 hl199_2; have HR199_8 := Aside0.mk hi199_8; have HC199_8 := Aside0.mk hl199_8; clear hi199_8 hl199_8; have HR199_9 := Aside0.mk hi199_9; have HC199_9 := Aside0.mk hl199_9; clear hi199_9 hl199_9; replace p199 := eq_true p199; replace q199 := eq_true q199; refine start_ (n := 52) (S := fun w' => w'.cell? (ad198.add ((x13_1).toNat * 14)) = some (.int .i64 ((rd_T38 l0 x13_1).f0)) ∧ w'.cell? ⟨(ad198.add ((x13_1).toNat * 14)).block, (ad198.add ((x13_1).toNat * 14)).off + 1, none⟩ = some (.slice A198_1 ((rd_T38 l0 x13_1).f1.f0).length c198_1) ∧ w'.cell? ⟨(ad198.add ((x13_1).toNat * 14)).block, (ad198.add ((x13_1).toNat * 14)).off + 2, none⟩ = some (.slice A198_2 ((rd_T38 l0 x13_1).f1.f1).length c198_2) ∧ w'.cell? ⟨(ad198.add ((x13_1).toNat * 14)).block, (ad198.add ((x13_1).toNat * 14)).off + 3, none⟩ = some (.int .i64 ((rd_T38 l0 x13_1).f1.f2)) ∧ w'.cell? ⟨(ad198.add ((x13_1).toNat * 14)).block, (ad198.add ((x13_1).toNat * 14)).off + 4, none⟩ = some (.int .i64 ((rd_T38 l0 x13_1).f1.f3)) ∧ w'.cell? ⟨(ad198.add ((x13_1).toNat * 14)).block, (ad198.add ((x13_1).toNat * 14)).off + 5, none⟩ = some (.int .i64 ((rd_T38 l0 x13_1).f1.f4)) ∧ w'.cell? ⟨(ad198.add ((x13_1).toNat * 14)).block, (ad198.add ((x13_1).toNat * 14)).off + 6, none⟩ = some (.int .i64 ((rd_T38 l0 x13_1).f1.f5)) ∧ w'.cell? ⟨(ad198.add ((x13_1).toNat * 14)).block, (ad198.add ((x13_1).toNat * 14)).off + 7, none⟩ = some (.bool ((rd_T38 l0 x13_1).f2)) ∧ w'.cell? ⟨(ad198.add ((x13_1).toNat * 14)).block, (ad198.add ((x13_1).toNat * 14)).off + 8, none⟩ = some (.slice A198_8 ((rd_T38 l0 x13_1).f3.f0).length c198_8) ∧ w'.cell? ⟨(ad198.add ((x13_1).toNat * 14)).block, (ad198.add ((x13_1).toNat * 14)).off + 9, none⟩ = some (.slice A198_9 ((rd_T38 l0 x13_1).f3.f1).length c198_9) ∧ w'.cell? ⟨(ad198.add ((x13_1).toNat * 14)).block, (ad198.add ((x13_1).toNat * 14)).off + 10, none⟩ = some (.int .i64 ((rd_T38 l0 x13_1).f3.f2)) ∧ w'.cell? ⟨(ad198.add ((x13_1).toNat * 14)).block, (ad198.add ((x13_1).toNat * 14)).off + 11, none⟩ = some (.int .i64 ((rd_T38 l0 x13_1).f3.f3)) ∧ w'.cell? ⟨(ad198.add ((x13_1).toNat * 14)).block, (ad198.add ((x13_1).toNat * 14)).off + 12, none⟩ = some (.int .i64 ((rd_T38 l0 x13_1).f3.f4)) ∧ w'.cell? ⟨(ad198.add ((x13_1).toNat * 14)).block, (ad198.add ((x13_1).toNat * 14)).off + 13, none⟩ = some (.int .i64 ((rd_T38 l0 x13_1).f3.f5)) ∧ w'.cell? (ad199.add ((x13_1).toNat * 14)) = some (.int .i64 ((rd_T38 l1 x13_1).f0)) ∧ w'.cell? ⟨(ad199.add ((x13_1).toNat * 14)).block, (ad199.add ((x13_1).toNat * 14)).off + 1, none⟩ = some (.slice A199_1 ((rd_T38 l1 x13_1).f1.f0).length c199_1) ∧ w'.cell? ⟨(ad199.add ((x13_1).toNat * 14)).block, (ad199.add ((x13_1).toNat * 14)).off + 2, none⟩ = some (.slice A199_2 ((rd_T38 l1 x13_1).f1.f1).length c199_2) ∧ w'.cell? ⟨(ad199.add ((x13_1).toNat * 14)).block, (ad199.add ((x13_1).toNat * 14)).off + 3, none⟩ = some (.int .i64 ((rd_T38 l1 x13_1).f1.f2)) ∧ w'.cell? ⟨(ad199.add ((x13_1).toNat * 14)).block, (ad199.add ((x13_1).toNat * 14)).off + 4, none⟩ = some (.int .i64 ((rd_T38 l1 x13_1).f1.f3)) ∧ w'.cell? ⟨(ad199.add ((x13_1).toNat * 14)).block, (ad199.add ((x13_1).toNat * 14)).off + 5, none⟩ = some (.int .i64 ((rd_T38 l1 x13_1).f1.f4)) ∧ w'.cell? ⟨(ad199.add ((x13_1).toNat * 14)).block, (ad199.add ((x13_1).toNat * 14)).off + 6, none⟩ = some (.int .i64 ((rd_T38 l1 x13_1).f1.f5)) ∧ w'.cell? ⟨(ad199.add ((x13_1).toNat * 14)).block, (ad199.add ((x13_1).toNat * 14)).off + 7, none⟩ = some (.bool ((rd_T38 l1 x13_1).f2)) ∧ w'.cell? ⟨(ad199.add ((x13_1).toNat * 14)).block, (ad199.add ((x13_1).toNat * 14)).off + 8, none⟩ = some (.slice A199_8 ((rd_T38 l1 x13_1).f3.f0).length c199_8) ∧ w'.cell? ⟨(ad199.add ((x13_1).toNat * 14)).block, (ad199.add ((x13_1).toNat * 14)).off + 9, none⟩ = some (.slice A199_9 ((rd_T38 l1 x13_1).f3.f1).length c199_9) ∧ w'.cell? ⟨(ad199.add ((x13_1).toNat * 14)).block, (ad199.add ((x13_1).toNat * 14)).off + 10, none⟩ = some (.int .i64 ((rd_T38 l1 x13_1).f3.f2)) ∧ w'.cell? ⟨(ad199.add ((x13_1).toNat * 14)).block, (ad199.add ((x13_1).toNat * 14)).off + 11, none⟩ = some (.int .i64 ((rd_T38 l1 x13_1).f3.f3)) ∧ w'.cell? ⟨(ad199.add ((x13_1).toNat * 14)).block, (ad199.add ((x13_1).toNat * 14)).off + 12, none⟩ = some (.int .i64 ((rd_T38 l1 x13_1).f3.f4)) ∧ w'.cell? ⟨(ad199.add ((x13_1).toNat * 14)).block, (ad199.add ((x13_1).toNat * 14)).off + 13, none⟩ = some (.int .i64 ((rd_T38 l1 x13_1).f3.f5))) (ds := []) zb10_0 (by kernel_rfl) rfl rfl ⟨((HB.out.cell (World.block_lt_of_cell? w _ hw198_0)).trans hw198_0), ((HB.out.cell (World.block_lt_of_cell? w _ hw198_1)).trans hw198_1), ((HB.out.cell (World.block_lt_of_cell? w _ hw198_2)).trans hw198_2), ((HB.out.cell (World.block_lt_of_cell? w _ hw198_3)).trans hw198_3), ((HB.out.cell (World.block_lt_of_cell? w _ hw198_4)).trans hw198_4), ((HB.out.cell (World.block_lt_of_cell? w _ hw198_5)).trans hw198_5), ((HB.out.cell (World.block_lt_of_cell? w _ hw198_6)).trans hw198_6), ((HB.out.cell (World.block_lt_of_cell? w _ hw198_7)).trans hw198_7), ((HB.out.cell (World.block_lt_of_cell? w _ hw198_8)).trans hw198_8), ((HB.out.cell (World.block_lt_of_cell? w _ hw198_9)).trans hw198_9), ((HB.out.cell (World.block_lt_of_cell? w _ hw198_10)).trans hw198_10), ((HB.out.cell (World.block_lt_of_cell? w _ hw198_11)).trans hw198_11), ((HB.out.cell (World.block_lt_of_cell? w _ hw198_12)).trans hw198_12), ((HB.out.cell (World.block_lt_of_cell? w _ hw198_13)).trans hw198_13), ((HB.out.cell (World.block_lt_of_cell? w _ hw199_0)).trans hw199_0), ((HB.out.cell (World.block_lt_of_cell? w _ hw199_1)).trans hw199_1), ((HB.out.cell (World.block_lt_of_cell? w _ hw199_2)).trans hw199_2), ((HB.out.cell (World.block_lt_of_cell? w _ hw199_3)).trans hw199_3), ((HB.out.cell (World.block_lt_of_cell? w _ hw199_4)).trans hw199_4), ((HB.out.cell (World.block_lt_of_cell? w _ hw199_5)).trans hw199_5), ((HB.out.cell (World.block_lt_of_cell? w _ hw199_6)).trans hw199_6), ((HB.out.cell (World.block_lt_of_cell? w _ hw199_7)).trans hw199_7), ((HB.out.cell (World.block_lt_of_cell? w _ hw199_8)).trans hw199_8), ((HB.out.cell (World.block_lt_of_cell? w _ hw199_9)).trans hw199_9), ((HB.out.cell (World.block_lt_of_cell? w _ hw199_10)).trans hw199_10), ((HB.out.cell (World.block_lt_of_cell? w _ hw199_11)).trans hw199_11), ((HB.out.cell (World.block_lt_of_cell? w _ hw199_12)).trans hw199_12), ((HB.out.cell (World.block_lt_of_cell? w _ hw199_13)).trans hw199_13)⟩ (fun hHeld => ?_); refine with_tabW terrierref17_Same.tab6 terrierref17_Same.bits6 (fun HT_ HW_ => ?_)
          generalize wr.drew = w26 at HB HR198_1 HR198_2 HR198_8 HR198_9 HR199_1 HR199_2 HR199_8 HR199_9 hx198_0 hx198_1 hx198_10 hx198_11 hx198_12 hx198_13 hx198_2 hx198_3 hx198_4 hx198_5 hx198_6 hx198_7 hx198_8 hx198_9 hx199_0 hx199_1 hx199_10 hx199_11 hx199_12 hx199_13 hx199_2 hx199_3 hx199_4 hx199_5 hx199_6 hx199_7 hx199_8 hx199_9 hHeld ⊢; refine pure_ (i := 0) (N := some 16) (v := ?_) (a' := ?_) zb10_1 rfl rfl (any_of HT_.out (by kernel_rfl)) (fun _ _ _ h => h) (Or.inl ⟨by rfl, ?_⟩) ?_ ?_; rotate_left
          · intro w'; go_simp; with_reducible rfl
          rotate_left
          · simp only [Act.put, Ext.sb, Ext.sz, Ext.ss, i64_w, i32_w]; rfl
          refine pure_ (i := 1) (N := some 17) (v := ?_) (a' := ?_) zb10_2 rfl rfl (any_of HT_.out (by kernel_rfl)) (fun _ _ _ h => h) (Or.inl ⟨by rfl, ?_⟩) ?_ ?_; rotate_left
          · intro w'; go_simp; with_reducible rfl
          rotate_left
          · simp only [Act.put, Ext.sb, Ext.sz, Ext.ss, i64_w, i32_w]; rfl
          refine pure_ (i := 2) (N := some 18) (v := ?_) (a' := ?_) zb10_3 rfl rfl (any_of HT_.out (by kernel_rfl)) (fun _ _ _ h => h) (Or.inl ⟨by rfl, ?_⟩) ?_ ?_; rotate_left
          · intro w'; go_simp; with_reducible rfl
          rotate_left
          · simp only [Act.put, Ext.sb, Ext.sz, Ext.ss, i64_w, i32_w]; rfl
          refine pure_ (i := 3) (N := some 19) (v := ?_) (a' := ?_) zb10_4 rfl rfl (any_of HT_.out (by kernel_rfl)) (fun _ _ _ h => h) (Or.inl ⟨by rfl, ?_⟩) ?_ ?_; rotate_left
          · intro w'; go_simp; with_reducible rfl
          rotate_left
          · simp only [Act.put, Ext.sb, Ext.sz, Ext.ss, i64_w, i32_w]; rfl
          refine pure_ (i := 5) (N := some 21) (v := ?_) (a' := ?_) zb10_5 rfl rfl (any_of HT_.out (by kernel_rfl)) (fun _ _ _ h => h) (Or.inl ⟨by rfl, ?_⟩) ?_ ?_; rotate_left
          · intro w'; go_simp; with_reducible rfl
          rotate_left
          · simp only [Act.put, Ext.sb, Ext.sz, Ext.ss, i64_w, i32_w]; rfl
          refine pure_ (i := 6) (N := some 22) (v := ?_) (a' := ?_) zb10_6 rfl rfl (any_of HT_.out (by kernel_rfl)) (fun _ _ _ h => h) (Or.inl ⟨by rfl, ?_⟩) ?_ ?_; rotate_left
          · intro w'; go_simp; with_reducible rfl
          rotate_left
          · simp only [Act.put, Ext.sb, Ext.sz, Ext.ss, i64_w, i32_w]; rfl
          refine pure_ (i := 7) (N := some 23) (v := ?_) (a' := ?_) zb10_7 rfl rfl (any_of HT_.out (by kernel_rfl)) (fun _ _ _ h => h) (Or.inl ⟨by rfl, ?_⟩) ?_ ?_; rotate_left
          · intro w'; go_simp; with_reducible rfl
          rotate_left
          · simp only [Act.put, Ext.sb, Ext.sz, Ext.ss, i64_w, i32_w]; rfl
          refine pure_ (i := 8) (N := some 24) (v := ?_) (a' := ?_) zb10_8 rfl rfl (any_of HT_.out (by kernel_rfl)) (fun _ _ _ h => h) (Or.inl ⟨by rfl, ?_⟩) ?_ ?_; rotate_left
          · intro w'; go_simp; with_reducible rfl
          rotate_left
          · simp only [Act.put, Ext.sb, Ext.sz, Ext.ss, i64_w, i32_w]; rfl
          refine take_ (i := 4) (N := some 20) (v := ?_) (a' := ?_) zb10_9 rfl rfl (take_ofW HT_.out HW_.out (by kernel_rfl)) (fun _ _ _ h => h) (Or.inl ⟨by rfl, ?_⟩) hHeld ?_ ?_; rotate_left
          · rintro w' ⟨s0, s1, s2, s3, s4, s5, s6, s7, s8, s9, s10, s11, s12, s13, s14, s15, s16, s17, s18, s19, s20, s21, s22, s23, s24, s25, s26, s27⟩; go_simp; with_reducible rfl
          rotate_left
          · simp only [Act.put, Ext.sb, Ext.sz, Ext.ss, i64_w, i32_w]; rfl
          refine take_ (i := 9) (N := some 25) (v := ?_) (a' := ?_) zb10_10 rfl rfl (take_ofW HT_.out HW_.out (by kernel_rfl)) (fun _ _ _ h => h) (Or.inl ⟨by rfl, ?_⟩) hHeld ?_ ?_; rotate_left
          · rintro w' ⟨s0, s1, s2, s3, s4, s5, s6, s7, s8, s9, s10, s11, s12, s13, s14, s15, s16, s17, s18, s19, s20, s21, s22, s23, s24, s25, s26, s27⟩; go_simp; with_reducible rfl
          rotate_left
          · simp only [Act.put, Ext.sb, Ext.sz, Ext.ss, i64_w, i32_w]; rfl
          refine pure_ (i := 10) (N := some 26) (v := ?_) (a' := ?_) zb10_11 rfl rfl (any_of HT_.out (by kernel_rfl)) (fun _ _ _ h => h) (Or.inl ⟨by rfl, ?_⟩) ?_ ?_; rotate_left
          · intro w'; go_simp; with_reducible rfl
          rotate_left
          · simp only [Act.put, Ext.sb, Ext.sz, Ext.ss, i64_w, i32_w]; rfl
          refine pure_ (i := 11) (N := some 27) (v := ?_) (a' := ?_) zb10_12 rfl rfl (any_of HT_.out (by kernel_rfl)) (fun _ _ _ h => h) (Or.inl ⟨by rfl, ?_⟩) ?_ ?_; rotate_left
          · intro w'; go_simp; with_reducible rfl
          rotate_left
          · simp only [Act.put, Ext.sb, Ext.sz, Ext.ss, i64_w, i32_w]; rfl
          refine pure_ (i := 12) (N := some 28) (v := undef) (a' := ?_) zb10_13 rfl rfl (any_of HT_.out (by kernel_rfl)) (fun _ _ _ h => h) (Or.inr ⟨by rfl, rfl⟩) ?_ ?_; rotate_left
          · simp only [Act.put, Ext.sb, Ext.sz, Ext.ss, i64_w, i32_w]; rfl
          refine pure_ (i := 13) (N := some 29) (v := undef) (a' := ?_) zb10_14 rfl rfl (any_of HT_.out (by kernel_rfl)) (fun _ _ _ h => h) (Or.inr ⟨by rfl, rfl⟩) ?_ ?_; rotate_left
          · simp only [Act.put, Ext.sb, Ext.sz, Ext.ss, i64_w, i32_w]; rfl
          refine pure_ (i := 14) (N := some 30) (v := undef) (a' := ?_) zb10_15 rfl rfl (any_of HT_.out (by kernel_rfl)) (fun _ _ _ h => h) (Or.inr ⟨by rfl, rfl⟩) ?_ ?_; rotate_left
          · simp only [Act.put, Ext.sb, Ext.sz, Ext.ss, i64_w, i32_w]; rfl
          refine pure_ (i := 15) (N := some 31) (v := undef) (a' := ?_) zb10_16 rfl rfl (any_of HT_.out (by kernel_rfl)) (fun _ _ _ h => h) (Or.inr ⟨by rfl, rfl⟩) ?_ ?_; rotate_left
          · simp only [Act.put, Ext.sb, Ext.sz, Ext.ss, i64_w, i32_w]; rfl
          refine pure_ (i := 16) (N := some 32) (v := undef) (a' := ?_) #[true, true, true, true, true, true, true, true, true, true, true, true, true, true, true, true, true, false, false, false, false, false, false, false, false, false, false, false, false, false, false, false, false, false, false, false, false, false, false, false, false, false, false, false, false, false, false, false, false, false, false, false] rfl rfl (any_of HT_.out (by kernel_rfl)) (fun _ _ _ h => h) (Or.inr ⟨by rfl, rfl⟩) ?_ ?_; rotate_left
          · simp only [Act.put, Ext.sb, Ext.sz, Ext.ss, i64_w, i32_w]; rfl
          refine pure_ (i := 17) (N := some 33) (v := undef) (a' := ?_) #[true, true, true, true, true, true, true, true, true, true, true, true, true, true, true, true, true, true, false, false, false, false, false, false, false, false, false, false, false, false, false, false, false, false, false, false, false, false, false, false, false, false, false, false, false, false, false, false, false, false, false, false] rfl rfl (any_of HT_.out (by kernel_rfl)) (fun _ _ _ h => h) (Or.inr ⟨by rfl, rfl⟩) ?_ ?_; rotate_left
          · simp only [Act.put, Ext.sb, Ext.sz, Ext.ss, i64_w, i32_w]; rfl
          refine pure_ (i := 18) (N := some 34) (v := undef) (a' := ?_) #[true, true, true, true, true, true, true, true, true, true, true, true, true, true, true, true, true, true, true, false, false, false, false, false, false, false, false, false, false, false, false, false, false, false, false, false, false, false, false, false, false, false, false, false, false, false, false, false, false, false, false, false] rfl rfl (any_of HT_.out (by kernel_rfl)) (fun _ _ _ h => h) (Or.inr ⟨by rfl, rfl⟩) ?_ ?_; rotate_left
          · simp only [Act.put, Ext.sb, Ext.sz, Ext.ss, i64_w, i32_w]; rfl
          refine pure_ (i := 19) (N := some 35) (v := undef) (a' := ?_) #[true, true, true, true, true, true, true, true, true, true, true, true, true, true, true, true, true, true, true, true, false, false, false, false, false, false, false, false, false, false, false, false, false, false, false, false, false, false, false, false, false, false, false, false, false, false, false, false, false, false, false, false] rfl rfl (any_of HT_.out (by kernel_rfl)) (fun _ _ _ h => h) (Or.inr ⟨by rfl, rfl⟩) ?_ ?_; rotate_left
          · simp only [Act.put, Ext.sb, Ext.sz, Ext.ss, i64_w, i32_w]; rfl
          refine pure_ (i := 20) (N := some 36) (v := undef) (a' := ?_) zb10_17 rfl rfl (any_of HT_.out (by kernel_rfl)) (fun _ _ _ h => h) (Or.inr ⟨by rfl, rfl⟩) ?_ ?_; rotate_left
          · simp only [Act.put, Ext.sb, Ext.sz, Ext.ss, i64_w, i32_w]; rfl
          refine pure_ (i := 21) (N := some 37) (v := undef) (a' := ?_) zb10_18 rfl rfl (any_of HT_.out (by kernel_rfl)) (fun _ _ _ h => h) (Or.inr ⟨by rfl, rfl⟩) ?_ ?_; rotate_left
          · simp only [Act.put, Ext.sb, Ext.sz, Ext.ss, i64_w, i32_w]; rfl
          refine pure_ (i := 22) (N := some 38) (v := undef) (a' := ?_) zb10_19 rfl rfl (any_of HT_.out (by kernel_rfl)) (fun _ _ _ h => h) (Or.inr ⟨by rfl, rfl⟩) ?_ ?_; rotate_left
          · simp only [Act.put, Ext.sb, Ext.sz, Ext.ss, i64_w, i32_w]; rfl
          refine pure_ (i := 23) (N := some 39) (v := ?_) (a' := ?_) zb10_20 rfl rfl (any_of HT_.out (by kernel_rfl)) (fun _ _ _ h => h) (Or.inl ⟨by rfl, ?_⟩) ?_ ?_; rotate_left
          · intro w'; go_simp; with_reducible rfl
          rotate_left
          · simp only [Act.put, Ext.sb, Ext.sz, Ext.ss, i64_w, i32_w]; rfl
          refine pure_ (i := 24) (N := some 40) (v := ?_) (a' := ?_) zb10_21 rfl rfl (any_of HT_.out (by kernel_rfl)) (fun _ _ _ h => h) (Or.inl ⟨by rfl, ?_⟩) ?_ ?_; rotate_left
          · intro w'; go_simp; with_reducible rfl
          rotate_left
          · simp only [Act.put, Ext.sb, Ext.sz, Ext.ss, i64_w, i32_w]; rfl
          refine pure_ (i := 25) (N := some 41) (v := undef) (a' := ?_) zb10_22 rfl rfl (any_of HT_.out (by kernel_rfl)) (fun _ _ _ h => h) (Or.inr ⟨by rfl, rfl⟩) ?_ ?_; rotate_left
          · simp only [Act.put, Ext.sb, Ext.sz, Ext.ss, i64_w, i32_w]; rfl
          refine pure_ (i := 26) (N := some 42) (v := undef) (a' := ?_) zb10_23 rfl rfl (any_of HT_.out (by kernel_rfl)) (fun _ _ _ h => h) (Or.inr ⟨by rfl, rfl⟩) ?_ ?_; rotate_left
          · simp only [Act.put, Ext.sb, Ext.sz, Ext.ss, i64_w, i32_w]; rfl
          refine pure_ (i := 27) (N := some 43) (v := undef) (a' := ?_) zb10_24 rfl rfl (any_of HT_.out (by kernel_rfl)) (fun _ _ _ h => h) (Or.inr ⟨by rfl, rfl⟩) ?_ ?_; rotate_left
          · simp only [Act.put, Ext.sb, Ext.sz, Ext.ss, i64_w, i32_w]; rfl
          refine pure_ (i := 28) (N := some 44) (v := undef) (a' := ?_) zb10_25 rfl rfl (any_of HT_.out (by kernel_rfl)) (fun _ _ _ h => h) (Or.inr ⟨by rfl, rfl⟩) ?_ ?_; rotate_left
          · simp only [Act.put, Ext.sb, Ext.sz, Ext.ss, i64_w, i32_w]; rfl
          refine pure_ (i := 29) (N := some 45) (v := undef) (a' := ?_) zb10_49 rfl rfl (any_of HT_.out (by kernel_rfl)) (fun _ _ _ h => h) (Or.inr ⟨by rfl, rfl⟩) ?_ ?_; rotate_left
          · simp only [Act.put, Ext.sb, Ext.sz, Ext.ss, i64_w, i32_w]; rfl
          refine pure_ (i := 30) (N := some 46) (v := undef) (a' := ?_) zb10_51 rfl rfl (any_of HT_.out (by kernel_rfl)) (fun _ _ _ h => h) (Or.inr ⟨by rfl, rfl⟩) ?_ ?_; rotate_left
          · simp only [Act.put, Ext.sb, Ext.sz, Ext.ss, i64_w, i32_w]; rfl
          refine pure_ (i := 31) (N := some 47) (v := undef) (a' := ?_) zb10_53 rfl rfl (any_of HT_.out (by kernel_rfl)) (fun _ _ _ h => h) (Or.inr ⟨by rfl, rfl⟩) ?_ ?_; rotate_left
          · simp only [Act.put, Ext.sb, Ext.sz, Ext.ss, i64_w, i32_w]; rfl
          refine pure_ (i := 32) (N := some 48) (v := undef) (a' := ?_) zb10_55 rfl rfl (any_of HT_.out (by kernel_rfl)) (fun _ _ _ h => h) (Or.inr ⟨by rfl, rfl⟩) ?_ ?_; rotate_left
          · simp only [Act.put, Ext.sb, Ext.sz, Ext.ss, i64_w, i32_w]; rfl
          refine pure_ (i := 33) (N := some 49) (v := undef) (a' := ?_) zb10_26 rfl rfl (any_of HT_.out (by kernel_rfl)) (fun _ _ _ h => h) (Or.inr ⟨by rfl, rfl⟩) ?_ ?_; rotate_left
          · simp only [Act.put, Ext.sb, Ext.sz, Ext.ss, i64_w, i32_w]; rfl
          refine pure_ (i := 34) (N := some 50) (v := undef) (a' := ?_) zb10_27 rfl rfl (any_of HT_.out (by kernel_rfl)) (fun _ _ _ h => h) (Or.inr ⟨by rfl, rfl⟩) ?_ ?_; rotate_left
          · simp only [Act.put, Ext.sb, Ext.sz, Ext.ss, i64_w, i32_w]; rfl
          refine pure_ (i := 35) (N := some 51) (v := undef) (a' := ?_) zb10_28 rfl rfl (any_of HT_.out (by kernel_rfl)) (fun _ _ _ h => h) (Or.inr ⟨by rfl, rfl⟩) ?_ ?_; rotate_left
          · simp only [Act.put, Ext.sb, Ext.sz, Ext.ss, i64_w, i32_w]; rfl
          refine pure_ (i := 36) (N := some 52) (v := undef) (a' := ?_) zb10_29 rfl rfl (any_of HT_.out (by kernel_rfl)) (fun _ _ _ h => h) (Or.inr ⟨by rfl, rfl⟩) ?_ ?_; rotate_left
          · simp only [Act.put, Ext.sb, Ext.sz, Ext.ss, i64_w, i32_w]; rfl
          refine pure_ (i := 37) (N := some 53) (v := ?_) (a' := ?_) zb10_30 rfl rfl (any_of HT_.out (by kernel_rfl)) (fun _ _ _ h => h) (Or.inl ⟨by rfl, ?_⟩) ?_ ?_; rotate_left
          · intro w'; go_simp; with_reducible rfl
          rotate_left
          · simp only [Act.put, Ext.sb, Ext.sz, Ext.ss, i64_w, i32_w]; rfl
          refine pure_ (i := 38) (N := some 54) (v := ?_) (a' := ?_) zb10_31 rfl rfl (any_of HT_.out (by kernel_rfl)) (fun _ _ _ h => h) (Or.inl ⟨by rfl, ?_⟩) ?_ ?_; rotate_left
          · intro w'; go_simp; with_reducible rfl
          rotate_left
          · simp only [Act.put, Ext.sb, Ext.sz, Ext.ss, i64_w, i32_w]; rfl
          refine pure_ (i := 39) (N := some 55) (v := undef) (a' := ?_) zb10_32 rfl rfl (any_of HT_.out (by kernel_rfl)) (fun _ _ _ h => h) (Or.inr ⟨by rfl, rfl⟩) ?_ ?_; rotate_left
          · simp only [Act.put, Ext.sb, Ext.sz, Ext.ss, i64_w, i32_w]; rfl
          refine pure_ (i := 40) (N := some 56) (v := undef) (a' := ?_) zb10_33 rfl rfl (any_of HT_.out (by kernel_rfl)) (fun _ _ _ h => h) (Or.inr ⟨by rfl, rfl⟩) ?_ ?_; rotate_left
          · simp only [Act.put, Ext.sb, Ext.sz, Ext.ss, i64_w, i32_w]; rfl
          refine pure_ (i := 41) (N := some 57) (v := undef) (a' := ?_) zb10_34 rfl rfl (any_of HT_.out (by kernel_rfl)) (fun _ _ _ h => h) (Or.inr ⟨by rfl, rfl⟩) ?_ ?_; rotate_left
          · simp only [Act.put, Ext.sb, Ext.sz, Ext.ss, i64_w, i32_w]; rfl
          refine pure_ (i := 42) (N := some 58) (v := undef) (a' := ?_) zb10_35 rfl rfl (any_of HT_.out (by kernel_rfl)) (fun _ _ _ h => h) (Or.inr ⟨by rfl, rfl⟩) ?_ ?_; rotate_left
          · simp only [Act.put, Ext.sb, Ext.sz, Ext.ss, i64_w, i32_w]; rfl
          refine pure_ (i := 43) (N := some 59) (v := undef) (a' := ?_) zb10_45 rfl rfl (any_of HT_.out (by kernel_rfl)) (fun _ _ _ h => h) (Or.inr ⟨by rfl, rfl⟩) ?_ ?_; rotate_left
          · simp only [Act.put, Ext.sb, Ext.sz, Ext.ss, i64_w, i32_w]; rfl
          refine pure_ (i := 44) (N := some 60) (v := undef) (a' := ?_) zb10_46 rfl rfl (any_of HT_.out (by kernel_rfl)) (fun _ _ _ h => h) (Or.inr ⟨by rfl, rfl⟩) ?_ ?_; rotate_left
          · simp only [Act.put, Ext.sb, Ext.sz, Ext.ss, i64_w, i32_w]; rfl
          refine pure_ (i := 45) (N := some 61) (v := undef) (a' := ?_) zb10_47 rfl rfl (any_of HT_.out (by kernel_rfl)) (fun _ _ _ h => h) (Or.inr ⟨by rfl, rfl⟩) ?_ ?_; rotate_left
          · simp only [Act.put, Ext.sb, Ext.sz, Ext.ss, i64_w, i32_w]; rfl
          refine pure_ (i := 46) (N := some 62) (v := undef) (a' := ?_) zb10_48 rfl rfl (any_of HT_.out (by kernel_rfl)) (fun _ _ _ h => h) (Or.inr ⟨by rfl, rfl⟩) ?_ ?_; rotate_left
          · simp only [Act.put, Ext.sb, Ext.sz, Ext.ss, i64_w, i32_w]; rfl
          refine pure_ (i := 47) (N := some 63) (v := undef) (a' := ?_) zb10_36 rfl rfl (any_of HT_.out (by kernel_rfl)) (fun _ _ _ h => h) (Or.inr ⟨by rfl, rfl⟩) ?_ ?_; rotate_left
          · simp only [Act.put, Ext.sb, Ext.sz, Ext.ss, i64_w, i32_w]; rfl
          refine pure_ (i := 48) (N := some 64) (v := undef) (a' := ?_) zb10_37 rfl rfl (any_of HT_.out (by kernel_rfl)) (fun _ _ _ h => h) (Or.inr ⟨by rfl, rfl⟩) ?_ ?_; rotate_left
          · simp only [Act.put, Ext.sb, Ext.sz, Ext.ss, i64_w, i32_w]; rfl
          refine pure_ (i := 49) (N := some 65) (v := undef) (a' := ?_) zb10_38 rfl rfl (any_of HT_.out (by kernel_rfl)) (fun _ _ _ h => h) (Or.inr ⟨by rfl, rfl⟩) ?_ ?_; rotate_left
          · simp only [Act.put, Ext.sb, Ext.sz, Ext.ss, i64_w, i32_w]; rfl
          refine pure_ (i := 50) (N := some 66) (v := undef) (a' := ?_) zb10_39 rfl rfl (any_of HT_.out (by kernel_rfl)) (fun _ _ _ h => h) (Or.inr ⟨by rfl, rfl⟩) ?_ ?_; rotate_left
          · simp only [Act.put, Ext.sb, Ext.sz, Ext.ss, i64_w, i32_w]; rfl
          refine pure_ (i := 51) (N := some 67) (v := ?_) (a' := ?_) zb10_40 rfl rfl (any_of HT_.out (by kernel_rfl)) (fun _ _ _ h => h) (Or.inl ⟨by rfl, ?_⟩) ?_ ?_; rotate_left
          · intro w'; go_simp; with_reducible rfl
          rotate_left
          · simp only [Act.put, Ext.sb, Ext.sz, Ext.ss, i64_w, i32_w]; rfl
          refine done_ (done_of HT_.out (by kernel_rfl)) ?_
          try go_wp2
          go_meet
          case rel => exact ⟨_, (true), (by first | rfl | (simp; done) | (simp [*]; done)), H', ⟨by have := HK1.out; first | omega | exact Nat.le_refl _⟩, ⟨by exact Ext.nB HB.out⟩⟩
        · rw [if_neg c8] at H; exact absurd H (by simp)
       · rw [if_neg c7] at H; exact absurd H (by simp)
      · rw [if_neg c6] at H; exact absurd H (by simp)
     case rest =>
      clear HC5; (try clear p1 q1 hx1 c2 c9b0 c9b1 c19 p19 q19 hx19 c22 hx198_0 hx198_1 hx198_10 hx198_11 hx198_12 hx198_13 hx198_2 hx198_3 hx198_4 hx198_5 hx198_6 hx198_7 hx198_8 hx198_9 hx199_0 hx199_1 hx199_10 hx199_11 hx199_12 hx199_13 hx199_2 hx199_3 hx199_4 hx199_5 hx199_6 hx199_7 hx199_8 hx199_9 p198 p199 q198 q199); obtain ⟨kq, x67_4, rfl, HA, HJ4, HB⟩ := hcut; cases kq with
      | zero => exact absurd HA.out (by simp [terrierref17_Same.j1])
      | succ kj4 =>
       have H := HA.out; clear HA; simp only [terrierref17_Same.j1] at H
       by_cases c27 : x67_4 = true
       ·
        subst c27; rw [if_pos rfl] at H; obtain rfl := Option.some.inj H
        go_wp2
        go_ret
        exact ⟨by first | rfl | (simp [errW_none, errW_some] <;> rfl) | (simp [*, errW_none, errW_some] <;> rfl), by exact Ext.nB HB.out⟩
       ·
        replace c27 := Bool.eq_false_iff.mpr c27; subst c27; rw [if_neg Bool.false_ne_true] at H; have H' := Aside0.mk H; clear H
        go_wp2
        go_roundg kj4
        case measure => have := HK1.out; have := HJ4.out; omega
        case rel => exact ⟨(wrap64 (x13_1 + 1)), (by first | rfl | (simp; done) | (simp [*]; done)), H', ⟨by have := HK1.out; have := HJ4.out; omega⟩, ⟨by exact Ext.nB HB.out⟩⟩
    ·
     rw [if_neg c4] at H; have c4b0 := decide_eq_false c4; clear c4; obtain rfl := Option.some.inj H
     go_wp2
     go_ret
     exact ⟨by first | rfl | (simp [errW_none, errW_some] <;> rfl) | (simp [*, errW_none, errW_some] <;> rfl), by exact Ext.nB HB.out⟩
 ·
  rw [if_neg c3] at H; obtain ⟨c3b0, c3b1⟩ := Ext.eF c3
  have c3b2 : (l0.length == l1.length) = false := by first | simpa using c3 | (simp at c3 ⊢; omega)
  obtain rfl := Option.some.inj H
  go_enter Try.func10, Try.ntmps10
  go_wp2
  go_ret
  exact ⟨by first | rfl | (simp [errW_none, errW_some] <;> rfl) | (simp [*, errW_none, errW_some] <;> rfl), by exact Ext.nB HB.out⟩

end Go.Proofs.Ytdakdlgkhnjhoaa.PA
