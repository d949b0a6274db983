-- Written by wip/printx.py, a program of this work over the kit's print, for this claim.
import Derived.Test.YtandeendeoempaaPCx0
import Derived.Test.YtandeendeoempaaPCx10
import Derived.Test.YtandeendeoempaaPCx11
namespace Go.Proofs.Ytandeendeoempaa.PC
open Go.RowKit Go.Proofs.YtandeendeoempaaW.PrintWords Go.Proofs.YtandeendeoempaaW.PrintLast Go.Proofs.YtandeendeoempaaW.PrintMore
attribute [local go_sem] max2_int min2_int max_two min_two max_three min_three max_four min_four   -- for this text's walks alone
attribute [local go_sem] Ext.pick_u8 Ext.pick_u32 Ext.pick_u64
set_option linter.unusedVariables false
set_option linter.unusedSimpArgs false

@[reducible] def zb27_0 : Array Bool := #[false, false, false, false, false, false, false, false, false, false, false, false, false, false, false, false, false, false, false, false, false, false, false, false, false, false, false]
@[reducible] def zb27_1 : Array Bool := #[true, false, false, false, false, false, false, false, false, false, false, false, false, false, false, false, false, false, false, false, false, false, false, false, false, false, false]
@[reducible] def zb27_2 : Array Bool := #[true, true, false, false, false, false, false, false, false, false, false, false, false, false, false, false, false, false, false, false, false, false, false, false, false, false, false]
@[reducible] def zb27_3 : Array Bool := #[true, true, true, false, false, false, false, false, false, false, false, false, false, false, false, false, false, false, false, false, false, false, false, false, false, false, false]
@[reducible] def zb27_4 : Array Bool := #[true, true, true, true, false, false, false, false, false, false, false, false, false, false, false, false, false, false, false, false, false, false, false, false, false, false, false]
@[reducible] def zb27_5 : Array Bool := #[true, true, true, true, true, false, false, false, false, false, false, false, false, false, false, false, false, false, false, false, false, false, false, false, false, false, false]
@[reducible] def zb27_6 : Array Bool := #[true, true, true, true, true, true, false, false, false, false, false, false, false, false, false, false, false, false, false, false, false, false, false, false, false, false, false]
@[reducible] def zb27_7 : Array Bool := #[true, true, true, true, true, true, true, false, false, false, false, false, false, false, false, false, false, false, false, false, false, false, false, false, false, false, false]
@[reducible] def zb27_8 : Array Bool := #[true, true, true, true, true, true, true, true, false, false, false, false, false, false, false, false, false, false, false, false, false, false, false, false, false, false, false]
@[reducible] def zb27_9 : Array Bool := #[true, true, true, true, true, true, true, true, true, false, false, false, false, false, false, false, false, false, false, false, false, false, false, false, false, false, false]
@[reducible] def zb27_10 : Array Bool := #[true, true, true, true, true, true, true, true, true, true, false, false, false, false, false, false, false, false, false, false, false, false, false, false, false, false, false]
@[reducible] def zb27_11 : Array Bool := #[true, true, true, true, true, true, true, true, true, true, true, false, false, false, false, false, false, false, false, false, false, false, false, false, false, false, false]
@[reducible] def zb27_12 : Array Bool := #[true, true, true, true, true, true, true, true, true, true, true, true, false, false, false, false, false, false, false, false, false, false, false, false, false, false, false]
@[reducible] def zb27_13 : Array Bool := #[true, true, true, true, true, true, true, true, true, true, true, true, true, false, false, false, false, false, false, false, false, false, false, false, false, false, false]
@[reducible] def zb27_14 : Array Bool := #[true, true, true, true, true, true, true, true, true, true, true, true, true, true, false, false, false, false, false, false, false, false, false, false, false, false, false]
@[reducible] def zb27_15 : Array Bool := #[true, true, true, true, true, true, true, true, true, true, true, true, true, true, true, false, false, false, false, false, false, false, false, false, false, false, false]
@[reducible] def zb27_16 : Array Bool := #[true, true, true, true, true, true, true, true, true, true, true, true, true, true, true, true, true, true, true, true, true, true, false, false, false, false, false]
@[reducible] def zb27_17 : Array Bool := #[true, true, true, true, true, true, true, true, true, true, true, true, true, true, true, true, true, true, true, true, true, true, true, false, false, false, false]
@[reducible] def zb27_18 : Array Bool := #[true, true, true, true, true, true, true, true, true, true, true, true, true, true, true, true, true, true, true, true, true, true, true, true, false, false, false]
@[reducible] def zb27_19 : Array Bool := #[true, true, true, true, true, true, true, true, true, true, true, true, true, true, true, true, true, true, true, true, true, true, true, true, true, false, false]
@[reducible] def zb27_20 : Array Bool := #[true, true, true, true, true, true, true, true, true, true, true, true, true, true, true, true, true, true, true, true, true, true, true, true, true, true, false]
@[reducible] def zb27_21 : Array Bool := #[true, true, true, true, true, true, true, true, true, true, true, true, true, true, true, true, true, true, true, true, true, true, true, true, true, true, true]
@[reducible] def zb27_22 : Array Bool := #[true, true, true, true, true, true, true, true, true, true, true, true, true, true, true, true, false, false, false, false, false, false, false, false, false, false, false]
@[reducible] def zb27_23 : Array Bool := #[true, true, true, true, true, true, true, true, true, true, true, true, true, true, true, true, true, false, false, false, false, false, false, false, false, false, false]
@[reducible] def zb27_24 : Array Bool := #[true, true, true, true, true, true, true, true, true, true, true, true, true, true, true, true, true, true, false, false, false, false, false, false, false, false, false]
@[reducible] def zb27_25 : Array Bool := #[true, true, true, true, true, true, true, true, true, true, true, true, true, true, true, true, true, true, true, false, false, false, false, false, false, false, false]
@[reducible] def zb27_26 : Array Bool := #[true, true, true, true, true, true, true, true, true, true, true, true, true, true, true, true, true, true, true, true, false, false, false, false, false, false, false]
@[reducible] def zb27_27 : Array Bool := #[true, true, true, true, true, true, true, true, true, true, true, true, true, true, true, true, true, true, true, true, true, false, false, false, false, false, false]
@[reducible] def zb27_28 : Array Bool := #[false, false, false, false, false, false, false, false, false, false, false, false, false, false, false]
@[reducible] def zb27_29 : Array Bool := #[true, false, false, false, false, false, false, false, false, false, false, false, false, false, false]
@[reducible] def zb27_30 : Array Bool := #[true, true, false, false, false, false, false, false, false, false, false, false, false, false, false]
@[reducible] def zb27_31 : Array Bool := #[true, true, true, false, false, false, false, false, false, false, false, false, false, false, false]
@[reducible] def zb27_32 : Array Bool := #[true, true, true, true, false, false, false, false, false, false, false, false, false, false, false]
@[reducible] def zb27_33 : Array Bool := #[true, true, true, true, true, true, true, true, true, true, true, false, false, false, false]
@[reducible] def zb27_34 : Array Bool := #[true, true, true, true, true, true, true, true, true, true, true, true, false, false, false]
@[reducible] def zb27_35 : Array Bool := #[true, true, true, true, true, true, true, true, true, true, true, true, true, false, false]
@[reducible] def zb27_36 : Array Bool := #[true, true, true, true, true, true, true, true, true, true, true, true, true, true, false]
@[reducible] def zb27_37 : Array Bool := #[true, true, true, true, true, true, true, true, true, true, true, true, true, true, true]
@[reducible] def ok27_0 (w0 : World)  : Nat → Prop := fun k_ => (w0.heap.size ≤ k_)
@[reducible] def ok27_1 (w0 : World) (v0 : Value) : Nat → Prop := fun k_ => (w0.heap.size ≤ k_) ∧ some k_ ≠ v0.ownBlock
@[reducible] def ok27_2 (w0 : World) (v0 : Value) (v1 : Value) : Nat → Prop := fun k_ => (w0.heap.size ≤ k_) ∧ some k_ ≠ v0.ownBlock ∧ some k_ ≠ v1.ownBlock
/-! ### terrierref04_room: function 27 -/
mutual
def terrierref04_room.j7 : Nat → List Int → Int → Int → Int → Int → List (S61) → List (S62) → List Int → List Int → Option (List Int × Int × Bool)
 | 0, _, _, _, _, _, _, _, _, _ => none
 | k + 1, x5, x6, x263000, x263001, x263002, x263003, x263004, x263005, x263006 => if x6 = 0 then (if x263000 = 4 then (if (wrap64 ((wrap64 ((wrap64 ((wrap64 ((x263003.length : Int) + (x263004.length : Int))) + (x263005.length : Int))) + (x263006.length : Int))) - x6)) = 0 then (if (x5.length : Int) > 237 then (terrierref04_room.j8 k x5 x6 true) else (if x263002 < 0 then (terrierref04_room.j8 k x5 x6 true) else (if x263002 ≥ 1024 then (terrierref04_room.j8 k x5 x6 true) else (if x263000 < 3 then (terrierref04_room.j8 k x5 x6 (x263002 != 0)) else (terrierref04_room.j8 k x5 x6 false))))) else (terrierref04_room.j8 k x5 x6 true)) else (terrierref04_room.j8 k x5 x6 true)) else (if (wrap64 ((wrap64 ((wrap64 ((wrap64 ((x263003.length : Int) + (x263004.length : Int))) + (x263005.length : Int))) + (x263006.length : Int))) - x6)) = 0 then (if (x5.length : Int) > 237 then (terrierref04_room.j8 k x5 x6 true) else (if x263002 < 0 then (terrierref04_room.j8 k x5 x6 true) else (if x263002 ≥ 1024 then (terrierref04_room.j8 k x5 x6 true) else (if x263000 < 3 then (terrierref04_room.j8 k x5 x6 (x263002 != 0)) else (terrierref04_room.j8 k x5 x6 false))))) else (terrierref04_room.j8 k x5 x6 true))
def terrierref04_room.j8 : Nat → List Int → Int → Bool → Option (List Int × Int × Bool)
 | 0, _, _, _ => none
 | k + 1, x5, x6, x281 => if x281 = true then (some (([] : List Int), 0, false)) else (some (x5, x6, true))
def terrierref04_room.l0 : Nat → List Int → Int → List (S61) → Int → Int → Int → Int → Int → List (S61) → List (S62) → List Int → List Int → Option (List Int × Int × Bool)
 | 0, _, _, _, _, _, _, _, _, _, _, _, _ => none
 | k + 1, x5, x6, x24, x25, x26, x263000, x263001, x263002, x263003, x263004, x263005, x263006 => if x26 < x25 then (if 0 ≤ x26 then (if x26 < (x24.length : Int) then (if (((rd_T61 x24 x26).f0).length : Int) > 32 then (terrierref04_room.j1 k x5 x6 x26 (decide (((rd_T61 x24 x26).f2) ≤ 64)) x24 x25 x26 true x263000 x263001 x263002 x263003 x263004 x263005 x263006 ((rd_T61 x24 x26).f0) ((rd_T61 x24 x26).f1) ((rd_T61 x24 x26).f2) ((rd_T61 x24 x26).f3)) else (if ((rd_T61 x24 x26).f2) < 0 then (terrierref04_room.j1 k x5 x6 x26 (decide (((rd_T61 x24 x26).f2) ≤ 64)) x24 x25 x26 true x263000 x263001 x263002 x263003 x263004 x263005 x263006 ((rd_T61 x24 x26).f0) ((rd_T61 x24 x26).f1) ((rd_T61 x24 x26).f2) ((rd_T61 x24 x26).f3)) else (if ((rd_T61 x24 x26).f2) > 4096 then (terrierref04_room.j1 k x5 x6 x26 (decide (((rd_T61 x24 x26).f2) ≤ 64)) x24 x25 x26 true x263000 x263001 x263002 x263003 x263004 x263005 x263006 ((rd_T61 x24 x26).f0) ((rd_T61 x24 x26).f1) ((rd_T61 x24 x26).f2) ((rd_T61 x24 x26).f3)) else (if ((rd_T61 x24 x26).f2) ≤ 64 then (if (((rd_T61 x24 x26).f1).length : Int) = ((rd_T61 x24 x26).f2) then (if ((rd_T61 x24 x26).f3) = 0 then (if (((rd_T61 x24 x26).f2) ≤ 64) then (terrierref04_room.j1 k x5 x6 x26 (decide (((rd_T61 x24 x26).f2) ≤ 64)) x24 x25 x26 false x263000 x263001 x263002 x263003 x263004 x263005 x263006 ((rd_T61 x24 x26).f0) ((rd_T61 x24 x26).f1) ((rd_T61 x24 x26).f2) ((rd_T61 x24 x26).f3)) else (if (((rd_T61 x24 x26).f1).length : Int) = 0 then ((terrierref04_id.f ((rd_T61 x24 x26).f3)).bind fun t268 => (terrierref04_room.j1 k x5 x6 x26 (decide (((rd_T61 x24 x26).f2) ≤ 64)) x24 x25 x26 (!t268) x263000 x263001 x263002 x263003 x263004 x263005 x263006 ((rd_T61 x24 x26).f0) ((rd_T61 x24 x26).f1) ((rd_T61 x24 x26).f2) ((rd_T61 x24 x26).f3))) else (terrierref04_room.j1 k x5 x6 x26 (decide (((rd_T61 x24 x26).f2) ≤ 64)) x24 x25 x26 true x263000 x263001 x263002 x263003 x263004 x263005 x263006 ((rd_T61 x24 x26).f0) ((rd_T61 x24 x26).f1) ((rd_T61 x24 x26).f2) ((rd_T61 x24 x26).f3)))) else (terrierref04_room.j1 k x5 x6 x26 (decide (((rd_T61 x24 x26).f2) ≤ 64)) x24 x25 x26 true x263000 x263001 x263002 x263003 x263004 x263005 x263006 ((rd_T61 x24 x26).f0) ((rd_T61 x24 x26).f1) ((rd_T61 x24 x26).f2) ((rd_T61 x24 x26).f3))) else (terrierref04_room.j1 k x5 x6 x26 (decide (((rd_T61 x24 x26).f2) ≤ 64)) x24 x25 x26 true x263000 x263001 x263002 x263003 x263004 x263005 x263006 ((rd_T61 x24 x26).f0) ((rd_T61 x24 x26).f1) ((rd_T61 x24 x26).f2) ((rd_T61 x24 x26).f3))) else (if (((rd_T61 x24 x26).f2) ≤ 64) then (terrierref04_room.j1 k x5 x6 x26 (decide (((rd_T61 x24 x26).f2) ≤ 64)) x24 x25 x26 false x263000 x263001 x263002 x263003 x263004 x263005 x263006 ((rd_T61 x24 x26).f0) ((rd_T61 x24 x26).f1) ((rd_T61 x24 x26).f2) ((rd_T61 x24 x26).f3)) else (if (((rd_T61 x24 x26).f1).length : Int) = 0 then ((terrierref04_id.f ((rd_T61 x24 x26).f3)).bind fun t269 => (terrierref04_room.j1 k x5 x6 x26 (decide (((rd_T61 x24 x26).f2) ≤ 64)) x24 x25 x26 (!t269) x263000 x263001 x263002 x263003 x263004 x263005 x263006 ((rd_T61 x24 x26).f0) ((rd_T61 x24 x26).f1) ((rd_T61 x24 x26).f2) ((rd_T61 x24 x26).f3))) else (terrierref04_room.j1 k x5 x6 x26 (decide (((rd_T61 x24 x26).f2) ≤ 64)) x24 x25 x26 true x263000 x263001 x263002 x263003 x263004 x263005 x263006 ((rd_T61 x24 x26).f0) ((rd_T61 x24 x26).f1) ((rd_T61 x24 x26).f2) ((rd_T61 x24 x26).f3)))))))) else (none)) else (none)) else (terrierref04_room.j7 k x5 x6 x263000 x263001 x263002 x263003 x263004 x263005 x263006)
def terrierref04_room.j1 : Nat → List Int → Int → Int → Bool → List (S61) → Int → Int → Bool → Int → Int → Int → List (S61) → List (S62) → List Int → List Int → List Int → List Int → Int → Int → Option (List Int × Int × Bool)
 | 0, _, _, _, _, _, _, _, _, _, _, _, _, _, _, _, _, _, _, _ => none
 | k + 1, x5, x6, x7, x9, x24, x25, x26, x79, x263000, x263001, x263002, x263003, x263004, x263005, x263006, x268000, x268001, x268002, x268003 => if x79 = true then (some (([] : List Int), 0, false)) else (if x7 > 0 then (if 0 ≤ (wrap64 (x7 - 1)) then (if (wrap64 (x7 - 1)) < (x263003.length : Int) then ((terrierref01_Ahead.f k ((rd_T61 x263003 (wrap64 (x7 - 1))).f0) x268000).bind fun t271 => (terrierref04_room.j2 k x5 x6 x9 x24 x25 x26 (!t271) x263000 x263001 x263002 x263003 x263004 x263005 x263006 x268000 x268001 x268002 x268003)) else (none)) else (none)) else (terrierref04_room.j2 k x5 x6 x9 x24 x25 x26 false x263000 x263001 x263002 x263003 x263004 x263005 x263006 x268000 x268001 x268002 x268003))
def terrierref04_room.j2 : Nat → List Int → Int → Bool → List (S61) → Int → Int → Bool → Int → Int → Int → List (S61) → List (S62) → List Int → List Int → List Int → List Int → Int → Int → Option (List Int × Int × Bool)
 | 0, _, _, _, _, _, _, _, _, _, _, _, _, _, _, _, _, _, _ => none
 | k + 1, x5, x6, x9, x24, x25, x26, x94, x263000, x263001, x263002, x263003, x263004, x263005, x263006, x268000, x268001, x268002, x268003 => if x94 = true then (some (([] : List Int), 0, false)) else ((some (([((x268000.length : Int)) % 256, (wrap64 (Int.tdiv x268002 256)) % 256, (Int.tmod x268002 256) % 256] : List Int) : List Int)).bind fun y272 => (if x5.length + y272.length < 140737488355328 then ((some (x5 ++ y272 : List Int)).bind fun y275 => (if y275.length + x268000.length < 140737488355328 then ((some (y275 ++ x268000 : List Int)).bind fun y278 => (if x9 = true then (if y278.length + x268001.length < 140737488355328 then (terrierref04_room.l0 k (y278 ++ x268001) x6 x24 x25 (wrap64 (x26 + 1)) x263000 x263001 x263002 x263003 x263004 x263005 x263006) else (none)) else ((terrierref01_Put.f k (IntKind.u64.wrap (x268003)) 4).bind fun t284 => (if y278.length + t284.length < 140737488355328 then (terrierref04_room.l0 k (y278 ++ t284) x6 x24 x25 (wrap64 (x26 + 1)) x263000 x263001 x263002 x263003 x263004 x263005 x263006) else (none))))) else (none))) else (none)))
def terrierref04_room.l1 : Nat → List Int → Int → List (S62) → Int → Int → Int → Int → Int → List (S61) → List (S62) → List Int → List Int → Option (List Int × Int × Bool)
 | 0, _, _, _, _, _, _, _, _, _, _, _, _ => none
 | k + 1, x5, x6, x132, x133, x134, x263000, x263001, x263002, x263003, x263004, x263005, x263006 => if x134 < x133 then (if 0 ≤ x134 then (if x134 < (x132.length : Int) then (if (((rd_T62 x132 x134).f0).length : Int) > 32 then (terrierref04_room.j4 k x5 x6 x132 x133 x134 true x263000 x263001 x263002 x263003 x263004 x263005 x263006 ((rd_T62 x132 x134).f0) ((rd_T62 x132 x134).f1)) else ((terrierref04_id.f ((rd_T62 x132 x134).f1)).bind fun t292 => (if t292 = true then (if x134 > 0 then (if 0 ≤ (wrap64 (x134 - 1)) then (if (wrap64 (x134 - 1)) < (x263004.length : Int) then ((terrierref01_Ahead.f k ((rd_T62 x263004 (wrap64 (x134 - 1))).f0) ((rd_T62 x132 x134).f0)).bind fun t294 => (terrierref04_room.j4 k x5 x6 x132 x133 x134 (!t294) x263000 x263001 x263002 x263003 x263004 x263005 x263006 ((rd_T62 x132 x134).f0) ((rd_T62 x132 x134).f1))) else (none)) else (none)) else (terrierref04_room.j4 k x5 x6 x132 x133 x134 false x263000 x263001 x263002 x263003 x263004 x263005 x263006 ((rd_T62 x132 x134).f0) ((rd_T62 x132 x134).f1))) else (terrierref04_room.j4 k x5 x6 x132 x133 x134 true x263000 x263001 x263002 x263003 x263004 x263005 x263006 ((rd_T62 x132 x134).f0) ((rd_T62 x132 x134).f1))))) else (none)) else (none)) else (terrierref04_room.j7 k x5 x6 x263000 x263001 x263002 x263003 x263004 x263005 x263006)
def terrierref04_room.j4 : Nat → List Int → Int → List (S62) → Int → Int → Bool → Int → Int → Int → List (S61) → List (S62) → List Int → List Int → List Int → Int → Option (List Int × Int × Bool)
 | 0, _, _, _, _, _, _, _, _, _, _, _, _, _, _, _ => none
 | k + 1, x5, x6, x132, x133, x134, x165, x263000, x263001, x263002, x263003, x263004, x263005, x263006, x292000, x292001 => if x165 = true then (some (([] : List Int), 0, false)) else (if x5.length < 140737488355328 then ((some (x5 ++ [((x292000.length : Int)) % 256] : List Int)).bind fun y295 => (if y295.length + x292000.length < 140737488355328 then ((some (y295 ++ x292000 : List Int)).bind fun y298 => ((terrierref01_Put.f k (IntKind.u64.wrap (x292001)) 4).bind fun t301 => (if y298.length + t301.length < 140737488355328 then (terrierref04_room.l1 k (y298 ++ t301) x6 x132 x133 (wrap64 (x134 + 1)) x263000 x263001 x263002 x263003 x263004 x263005 x263006) else (none)))) else (none))) else (none))
def terrierref04_room.l2 : Nat → List Int → Int → List Int → Int → Int → Int → Int → Int → List (S61) → List (S62) → List Int → List Int → Option (List Int × Int × Bool)
 | 0, _, _, _, _, _, _, _, _, _, _, _, _ => none
 | k + 1, x5, x6, x199, x200, x201, x263000, x263001, x263002, x263003, x263004, x263005, x263006 => if x201 < x200 then (if 0 ≤ x201 then (if x201 < (x199.length : Int) then ((terrierref04_id.f (rd x199 x201)).bind fun t311 => (if t311 = true then (if x201 > 0 then (if 0 ≤ (wrap64 (x201 - 1)) then (if (wrap64 (x201 - 1)) < (x263006.length : Int) then (terrierref04_room.j6 k x5 x6 (rd x199 x201) x199 x200 x201 (decide ((rd x263006 (wrap64 (x201 - 1))) ≥ (rd x199 x201))) x263000 x263001 x263002 x263003 x263004 x263005 x263006) else (none)) else (none)) else (terrierref04_room.j6 k x5 x6 (rd x199 x201) x199 x200 x201 false x263000 x263001 x263002 x263003 x263004 x263005 x263006)) else (terrierref04_room.j6 k x5 x6 (rd x199 x201) x199 x200 x201 true x263000 x263001 x263002 x263003 x263004 x263005 x263006))) else (none)) else (none)) else (terrierref04_room.j7 k x5 x6 x263000 x263001 x263002 x263003 x263004 x263005 x263006)
def terrierref04_room.j6 : Nat → List Int → Int → Int → List Int → Int → Int → Bool → Int → Int → Int → List (S61) → List (S62) → List Int → List Int → Option (List Int × Int × Bool)
 | 0, _, _, _, _, _, _, _, _, _, _, _, _, _, _ => none
 | k + 1, x5, x6, x13, x199, x200, x201, x222, x263000, x263001, x263002, x263003, x263004, x263005, x263006 => if x222 = true then (some (([] : List Int), 0, false)) else ((terrierref01_Put.f k (IntKind.u64.wrap (x13)) 4).bind fun t313 => (if x5.length + t313.length < 140737488355328 then (terrierref04_room.l2 k (x5 ++ t313) x6 x199 x200 (wrap64 (x201 + 1)) x263000 x263001 x263002 x263003 x263004 x263005 x263006) else (none)))
end
def terrierref04_room.f (k : Nat) (a0_0 : Int) (a0_1 : Int) (a0_2 : Int) (l0_3 : List (S61)) (l0_4 : List (S62)) (l0_5 : List Int) (l0_6 : List Int) : Option (List Int × Int × Bool) := (some (([] : List Int) : List Int)).bind fun y263 => (if a0_0 = 1 then (terrierref04_room.l0 k y263 (l0_3.length : Int) l0_3 (l0_3.length : Int) 0 a0_0 a0_1 a0_2 l0_3 l0_4 l0_5 l0_6) else (if a0_0 = 2 then (terrierref04_room.l1 k y263 (l0_4.length : Int) l0_4 (l0_4.length : Int) 0 a0_0 a0_1 a0_2 l0_3 l0_4 l0_5 l0_6) else (if a0_0 = 3 then (if y263.length + l0_5.length < 140737488355328 then (terrierref04_room.j7 k (y263 ++ l0_5) (l0_5.length : Int) a0_0 a0_1 a0_2 l0_3 l0_4 l0_5 l0_6) else (none)) else (if a0_0 = 4 then (terrierref04_room.l2 k y263 (l0_6.length : Int) l0_6 (l0_6.length : Int) 0 a0_0 a0_1 a0_2 l0_3 l0_4 l0_5 l0_6) else (some (([] : List Int), 0, false))))))
theorem terrierref04_room.mono_l : ∀ k, (∀ y0 y1 y2 y3 y4 y5 y6 y7 y8, LeO (terrierref04_room.j7 k y0 y1 y2 y3 y4 y5 y6 y7 y8) (terrierref04_room.j7 (k + 1) y0 y1 y2 y3 y4 y5 y6 y7 y8)) ∧ (∀ y0 y1 y2, LeO (terrierref04_room.j8 k y0 y1 y2) (terrierref04_room.j8 (k + 1) y0 y1 y2)) ∧ (∀ y0 y1 y2 y3 y4 y5 y6 y7 y8 y9 y10 y11, LeO (terrierref04_room.l0 k y0 y1 y2 y3 y4 y5 y6 y7 y8 y9 y10 y11) (terrierref04_room.l0 (k + 1) y0 y1 y2 y3 y4 y5 y6 y7 y8 y9 y10 y11)) ∧ (∀ y0 y1 y2 y3 y4 y5 y6 y7 y8 y9 y10 y11 y12 y13 y14 y15 y16 y17 y18, LeO (terrierref04_room.j1 k y0 y1 y2 y3 y4 y5 y6 y7 y8 y9 y10 y11 y12 y13 y14 y15 y16 y17 y18) (terrierref04_room.j1 (k + 1) y0 y1 y2 y3 y4 y5 y6 y7 y8 y9 y10 y11 y12 y13 y14 y15 y16 y17 y18)) ∧ (∀ y0 y1 y2 y3 y4 y5 y6 y7 y8 y9 y10 y11 y12 y13 y14 y15 y16 y17, LeO (terrierref04_room.j2 k y0 y1 y2 y3 y4 y5 y6 y7 y8 y9 y10 y11 y12 y13 y14 y15 y16 y17) (terrierref04_room.j2 (k + 1) y0 y1 y2 y3 y4 y5 y6 y7 y8 y9 y10 y11 y12 y13 y14 y15 y16 y17)) ∧ (∀ y0 y1 y2 y3 y4 y5 y6 y7 y8 y9 y10 y11, LeO (terrierref04_room.l1 k y0 y1 y2 y3 y4 y5 y6 y7 y8 y9 y10 y11) (terrierref04_room.l1 (k + 1) y0 y1 y2 y3 y4 y5 y6 y7 y8 y9 y10 y11)) ∧ (∀ y0 y1 y2 y3 y4 y5 y6 y7 y8 y9 y10 y11 y12 y13 y14, LeO (terrierref04_room.j4 k y0 y1 y2 y3 y4 y5 y6 y7 y8 y9 y10 y11 y12 y13 y14) (terrierref04_room.j4 (k + 1) y0 y1 y2 y3 y4 y5 y6 y7 y8 y9 y10 y11 y12 y13 y14)) ∧ (∀ y0 y1 y2 y3 y4 y5 y6 y7 y8 y9 y10 y11, LeO (terrierref04_room.l2 k y0 y1 y2 y3 y4 y5 y6 y7 y8 y9 y10 y11) (terrierref04_room.l2 (k + 1) y0 y1 y2 y3 y4 y5 y6 y7 y8 y9 y10 y11)) ∧ (∀ y0 y1 y2 y3 y4 y5 y6 y7 y8 y9 y10 y11 y12 y13, LeO (terrierref04_room.j6 k y0 y1 y2 y3 y4 y5 y6 y7 y8 y9 y10 y11 y12 y13) (terrierref04_room.j6 (k + 1) y0 y1 y2 y3 y4 y5 y6 y7 y8 y9 y10 y11 y12 y13))
 | 0 => ⟨fun _ _ _ _ _ _ _ _ _ r h => by simp [terrierref04_room.j7] at h, fun _ _ _ r h => by simp [terrierref04_room.j8] at h, fun _ _ _ _ _ _ _ _ _ _ _ _ r h => by simp [terrierref04_room.l0] at h, fun _ _ _ _ _ _ _ _ _ _ _ _ _ _ _ _ _ _ _ r h => by simp [terrierref04_room.j1] at h, fun _ _ _ _ _ _ _ _ _ _ _ _ _ _ _ _ _ _ r h => by simp [terrierref04_room.j2] at h, fun _ _ _ _ _ _ _ _ _ _ _ _ r h => by simp [terrierref04_room.l1] at h, fun _ _ _ _ _ _ _ _ _ _ _ _ _ _ _ r h => by simp [terrierref04_room.j4] at h, fun _ _ _ _ _ _ _ _ _ _ _ _ r h => by simp [terrierref04_room.l2] at h, fun _ _ _ _ _ _ _ _ _ _ _ _ _ _ r h => by simp [terrierref04_room.j6] at h⟩
 | k + 1 => by
  obtain ⟨ih0, ih1, ih2, ih3, ih4, ih5, ih6, ih7, ih8⟩ := terrierref04_room.mono_l k; refine ⟨?_, ?_, ?_, ?_, ?_, ?_, ?_, ?_, ?_⟩
  ·
   intro y0 y1 y2 y3 y4 y5 y6 y7 y8
   unfold terrierref04_room.j7
   repeat' first
   | (with_reducible exact ih0 _ _ _ _ _ _ _ _ _)
   | (with_reducible exact ih1 _ _ _)
   | (with_reducible exact ih2 _ _ _ _ _ _ _ _ _ _ _ _)
   | (with_reducible exact ih3 _ _ _ _ _ _ _ _ _ _ _ _ _ _ _ _ _ _ _)
   | (with_reducible exact ih4 _ _ _ _ _ _ _ _ _ _ _ _ _ _ _ _ _ _)
   | (with_reducible exact ih5 _ _ _ _ _ _ _ _ _ _ _ _)
   | (with_reducible exact ih6 _ _ _ _ _ _ _ _ _ _ _ _ _ _ _)
   | (with_reducible exact ih7 _ _ _ _ _ _ _ _ _ _ _ _)
   | (with_reducible exact ih8 _ _ _ _ _ _ _ _ _ _ _ _ _ _)
   | (with_reducible exact terrierref01_Ahead.mono _ _ _)
   | (with_reducible exact terrierref01_Put.mono _ _ _)
   | (with_reducible exact LeO.refl _)
   | (with_reducible exact LeO.none _)
   | (with_reducible refine LeO.ite ?_ ?_)
   | (with_reducible refine LeO.bind ?_ (fun _ => ?_))
   | exact ih0 _ _ _ _ _ _ _ _ _
   | exact ih1 _ _ _
   | exact ih2 _ _ _ _ _ _ _ _ _ _ _ _
   | exact ih3 _ _ _ _ _ _ _ _ _ _ _ _ _ _ _ _ _ _ _
   | exact ih4 _ _ _ _ _ _ _ _ _ _ _ _ _ _ _ _ _ _
   | exact ih5 _ _ _ _ _ _ _ _ _ _ _ _
   | exact ih6 _ _ _ _ _ _ _ _ _ _ _ _ _ _ _
   | exact ih7 _ _ _ _ _ _ _ _ _ _ _ _
   | exact ih8 _ _ _ _ _ _ _ _ _ _ _ _ _ _
   | exact terrierref01_Ahead.mono _ _ _
   | exact terrierref01_Put.mono _ _ _
   | exact LeO.none _
   | refine LeO.ite ?_ ?_
   | refine LeO.bind ?_ (fun _ => ?_)
  ·
   intro y0 y1 y2
   unfold terrierref04_room.j8
   repeat' first
   | (with_reducible exact ih0 _ _ _ _ _ _ _ _ _)
   | (with_reducible exact ih1 _ _ _)
   | (with_reducible exact ih2 _ _ _ _ _ _ _ _ _ _ _ _)
   | (with_reducible exact ih3 _ _ _ _ _ _ _ _ _ _ _ _ _ _ _ _ _ _ _)
   | (with_reducible exact ih4 _ _ _ _ _ _ _ _ _ _ _ _ _ _ _ _ _ _)
   | (with_reducible exact ih5 _ _ _ _ _ _ _ _ _ _ _ _)
   | (with_reducible exact ih6 _ _ _ _ _ _ _ _ _ _ _ _ _ _ _)
   | (with_reducible exact ih7 _ _ _ _ _ _ _ _ _ _ _ _)
   | (with_reducible exact ih8 _ _ _ _ _ _ _ _ _ _ _ _ _ _)
   | (with_reducible exact terrierref01_Ahead.mono _ _ _)
   | (with_reducible exact terrierref01_Put.mono _ _ _)
   | (with_reducible exact LeO.refl _)
   | (with_reducible exact LeO.none _)
   | (with_reducible refine LeO.ite ?_ ?_)
   | (with_reducible refine LeO.bind ?_ (fun _ => ?_))
   | exact ih0 _ _ _ _ _ _ _ _ _
   | exact ih1 _ _ _
   | exact ih2 _ _ _ _ _ _ _ _ _ _ _ _
   | exact ih3 _ _ _ _ _ _ _ _ _ _ _ _ _ _ _ _ _ _ _
   | exact ih4 _ _ _ _ _ _ _ _ _ _ _ _ _ _ _ _ _ _
   | exact ih5 _ _ _ _ _ _ _ _ _ _ _ _
   | exact ih6 _ _ _ _ _ _ _ _ _ _ _ _ _ _ _
   | exact ih7 _ _ _ _ _ _ _ _ _ _ _ _
   | exact ih8 _ _ _ _ _ _ _ _ _ _ _ _ _ _
   | exact terrierref01_Ahead.mono _ _ _
   | exact terrierref01_Put.mono _ _ _
   | exact LeO.none _
   | refine LeO.ite ?_ ?_
   | refine LeO.bind ?_ (fun _ => ?_)
  ·
   intro y0 y1 y2 y3 y4 y5 y6 y7 y8 y9 y10 y11
   unfold terrierref04_room.l0
   repeat' first
   | (with_reducible exact ih0 _ _ _ _ _ _ _ _ _)
   | (with_reducible exact ih1 _ _ _)
   | (with_reducible exact ih2 _ _ _ _ _ _ _ _ _ _ _ _)
   | (with_reducible exact ih3 _ _ _ _ _ _ _ _ _ _ _ _ _ _ _ _ _ _ _)
   | (with_reducible exact ih4 _ _ _ _ _ _ _ _ _ _ _ _ _ _ _ _ _ _)
   | (with_reducible exact ih5 _ _ _ _ _ _ _ _ _ _ _ _)
   | (with_reducible exact ih6 _ _ _ _ _ _ _ _ _ _ _ _ _ _ _)
   | (with_reducible exact ih7 _ _ _ _ _ _ _ _ _ _ _ _)
   | (with_reducible exact ih8 _ _ _ _ _ _ _ _ _ _ _ _ _ _)
   | (with_reducible exact terrierref01_Ahead.mono _ _ _)
   | (with_reducible exact terrierref01_Put.mono _ _ _)
   | (with_reducible exact LeO.refl _)
   | (with_reducible exact LeO.none _)
   | (with_reducible refine LeO.ite ?_ ?_)
   | (with_reducible refine LeO.bind ?_ (fun _ => ?_))
   | exact ih0 _ _ _ _ _ _ _ _ _
   | exact ih1 _ _ _
   | exact ih2 _ _ _ _ _ _ _ _ _ _ _ _
   | exact ih3 _ _ _ _ _ _ _ _ _ _ _ _ _ _ _ _ _ _ _
   | exact ih4 _ _ _ _ _ _ _ _ _ _ _ _ _ _ _ _ _ _
   | exact ih5 _ _ _ _ _ _ _ _ _ _ _ _
   | exact ih6 _ _ _ _ _ _ _ _ _ _ _ _ _ _ _
   | exact ih7 _ _ _ _ _ _ _ _ _ _ _ _
   | exact ih8 _ _ _ _ _ _ _ _ _ _ _ _ _ _
   | exact terrierref01_Ahead.mono _ _ _
   | exact terrierref01_Put.mono _ _ _
   | exact LeO.none _
   | refine LeO.ite ?_ ?_
   | refine LeO.bind ?_ (fun _ => ?_)
  ·
   intro y0 y1 y2 y3 y4 y5 y6 y7 y8 y9 y10 y11 y12 y13 y14 y15 y16 y17 y18
   unfold terrierref04_room.j1
   repeat' first
   | (with_reducible exact ih0 _ _ _ _ _ _ _ _ _)
   | (with_reducible exact ih1 _ _ _)
   | (with_reducible exact ih2 _ _ _ _ _ _ _ _ _ _ _ _)
   | (with_reducible exact ih3 _ _ _ _ _ _ _ _ _ _ _ _ _ _ _ _ _ _ _)
   | (with_reducible exact ih4 _ _ _ _ _ _ _ _ _ _ _ _ _ _ _ _ _ _)
   | (with_reducible exact ih5 _ _ _ _ _ _ _ _ _ _ _ _)
   | (with_reducible exact ih6 _ _ _ _ _ _ _ _ _ _ _ _ _ _ _)
   | (with_reducible exact ih7 _ _ _ _ _ _ _ _ _ _ _ _)
   | (with_reducible exact ih8 _ _ _ _ _ _ _ _ _ _ _ _ _ _)
   | (with_reducible exact terrierref01_Ahead.mono _ _ _)
   | (with_reducible exact terrierref01_Put.mono _ _ _)
   | (with_reducible exact LeO.refl _)
   | (with_reducible exact LeO.none _)
   | (with_reducible refine LeO.ite ?_ ?_)
   | (with_reducible refine LeO.bind ?_ (fun _ => ?_))
   | exact ih0 _ _ _ _ _ _ _ _ _
   | exact ih1 _ _ _
   | exact ih2 _ _ _ _ _ _ _ _ _ _ _ _
   | exact ih3 _ _ _ _ _ _ _ _ _ _ _ _ _ _ _ _ _ _ _
   | exact ih4 _ _ _ _ _ _ _ _ _ _ _ _ _ _ _ _ _ _
   | exact ih5 _ _ _ _ _ _ _ _ _ _ _ _
   | exact ih6 _ _ _ _ _ _ _ _ _ _ _ _ _ _ _
   | exact ih7 _ _ _ _ _ _ _ _ _ _ _ _
   | exact ih8 _ _ _ _ _ _ _ _ _ _ _ _ _ _
   | exact terrierref01_Ahead.mono _ _ _
   | exact terrierref01_Put.mono _ _ _
   | exact LeO.none _
   | refine LeO.ite ?_ ?_
   | refine LeO.bind ?_ (fun _ => ?_)
  ·
   intro y0 y1 y2 y3 y4 y5 y6 y7 y8 y9 y10 y11 y12 y13 y14 y15 y16 y17
   unfold terrierref04_room.j2
   repeat' first
   | (with_reducible exact ih0 _ _ _ _ _ _ _ _ _)
   | (with_reducible exact ih1 _ _ _)
   | (with_reducible exact ih2 _ _ _ _ _ _ _ _ _ _ _ _)
   | (with_reducible exact ih3 _ _ _ _ _ _ _ _ _ _ _ _ _ _ _ _ _ _ _)
   | (with_reducible exact ih4 _ _ _ _ _ _ _ _ _ _ _ _ _ _ _ _ _ _)
   | (with_reducible exact ih5 _ _ _ _ _ _ _ _ _ _ _ _)
   | (with_reducible exact ih6 _ _ _ _ _ _ _ _ _ _ _ _ _ _ _)
   | (with_reducible exact ih7 _ _ _ _ _ _ _ _ _ _ _ _)
   | (with_reducible exact ih8 _ _ _ _ _ _ _ _ _ _ _ _ _ _)
   | (with_reducible exact terrierref01_Ahead.mono _ _ _)
   | (with_reducible exact terrierref01_Put.mono _ _ _)
   | (with_reducible exact LeO.refl _)
   | (with_reducible exact LeO.none _)
   | (with_reducible refine LeO.ite ?_ ?_)
   | (with_reducible refine LeO.bind ?_ (fun _ => ?_))
   | exact ih0 _ _ _ _ _ _ _ _ _
   | exact ih1 _ _ _
   | exact ih2 _ _ _ _ _ _ _ _ _ _ _ _
   | exact ih3 _ _ _ _ _ _ _ _ _ _ _ _ _ _ _ _ _ _ _
   | exact ih4 _ _ _ _ _ _ _ _ _ _ _ _ _ _ _ _ _ _
   | exact ih5 _ _ _ _ _ _ _ _ _ _ _ _
   | exact ih6 _ _ _ _ _ _ _ _ _ _ _ _ _ _ _
   | exact ih7 _ _ _ _ _ _ _ _ _ _ _ _
   | exact ih8 _ _ _ _ _ _ _ _ _ _ _ _ _ _
   | exact terrierref01_Ahead.mono _ _ _
   | exact terrierref01_Put.mono _ _ _
   | exact LeO.none _
   | refine LeO.ite ?_ ?_
   | refine LeO.bind ?_ (fun _ => ?_)
  ·
   intro y0 y1 y2 y3 y4 y5 y6 y7 y8 y9 y10 y11
   unfold terrierref04_room.l1
   repeat' first
   | (with_reducible exact ih0 _ _ _ _ _ _ _ _ _)
   | (with_reducible exact ih1 _ _ _)
   | (with_reducible exact ih2 _ _ _ _ _ _ _ _ _ _ _ _)
   | (with_reducible exact ih3 _ _ _ _ _ _ _ _ _ _ _ _ _ _ _ _ _ _ _)
   | (with_reducible exact ih4 _ _ _ _ _ _ _ _ _ _ _ _ _ _ _ _ _ _)
   | (with_reducible exact ih5 _ _ _ _ _ _ _ _ _ _ _ _)
   | (with_reducible exact ih6 _ _ _ _ _ _ _ _ _ _ _ _ _ _ _)
   | (with_reducible exact ih7 _ _ _ _ _ _ _ _ _ _ _ _)
   | (with_reducible exact ih8 _ _ _ _ _ _ _ _ _ _ _ _ _ _)
   | (with_reducible exact terrierref01_Ahead.mono _ _ _)
   | (with_reducible exact terrierref01_Put.mono _ _ _)
   | (with_reducible exact LeO.refl _)
   | (with_reducible exact LeO.none _)
   | (with_reducible refine LeO.ite ?_ ?_)
   | (with_reducible refine LeO.bind ?_ (fun _ => ?_))
   | exact ih0 _ _ _ _ _ _ _ _ _
   | exact ih1 _ _ _
   | exact ih2 _ _ _ _ _ _ _ _ _ _ _ _
   | exact ih3 _ _ _ _ _ _ _ _ _ _ _ _ _ _ _ _ _ _ _
   | exact ih4 _ _ _ _ _ _ _ _ _ _ _ _ _ _ _ _ _ _
   | exact ih5 _ _ _ _ _ _ _ _ _ _ _ _
   | exact ih6 _ _ _ _ _ _ _ _ _ _ _ _ _ _ _
   | exact ih7 _ _ _ _ _ _ _ _ _ _ _ _
   | exact ih8 _ _ _ _ _ _ _ _ _ _ _ _ _ _
   | exact terrierref01_Ahead.mono _ _ _
   | exact terrierref01_Put.mono _ _ _
   | exact LeO.none _
   | refine LeO.ite ?_ ?_
   | refine LeO.bind ?_ (fun _ => ?_)
  ·
   intro y0 y1 y2 y3 y4 y5 y6 y7 y8 y9 y10 y11 y12 y13 y14
   unfold terrierref04_room.j4
   repeat' first
   | (with_reducible exact ih0 _ _ _ _ _ _ _ _ _)
   | (with_reducible exact ih1 _ _ _)
   | (with_reducible exact ih2 _ _ _ _ _ _ _ _ _ _ _ _)
   | (with_reducible exact ih3 _ _ _ _ _ _ _ _ _ _ _ _ _ _ _ _ _ _ _)
   | (with_reducible exact ih4 _ _ _ _ _ _ _ _ _ _ _ _ _ _ _ _ _ _)
   | (with_reducible exact ih5 _ _ _ _ _ _ _ _ _ _ _ _)
   | (with_reducible exact ih6 _ _ _ _ _ _ _ _ _ _ _ _ _ _ _)
   | (with_reducible exact ih7 _ _ _ _ _ _ _ _ _ _ _ _)
   | (with_reducible exact ih8 _ _ _ _ _ _ _ _ _ _ _ _ _ _)
   | (with_reducible exact terrierref01_Ahead.mono _ _ _)
   | (with_reducible exact terrierref01_Put.mono _ _ _)
   | (with_reducible exact LeO.refl _)
   | (with_reducible exact LeO.none _)
   | (with_reducible refine LeO.ite ?_ ?_)
   | (with_reducible refine LeO.bind ?_ (fun _ => ?_))
   | exact ih0 _ _ _ _ _ _ _ _ _
   | exact ih1 _ _ _
   | exact ih2 _ _ _ _ _ _ _ _ _ _ _ _
   | exact ih3 _ _ _ _ _ _ _ _ _ _ _ _ _ _ _ _ _ _ _
   | exact ih4 _ _ _ _ _ _ _ _ _ _ _ _ _ _ _ _ _ _
   | exact ih5 _ _ _ _ _ _ _ _ _ _ _ _
   | exact ih6 _ _ _ _ _ _ _ _ _ _ _ _ _ _ _
   | exact ih7 _ _ _ _ _ _ _ _ _ _ _ _
   | exact ih8 _ _ _ _ _ _ _ _ _ _ _ _ _ _
   | exact terrierref01_Ahead.mono _ _ _
   | exact terrierref01_Put.mono _ _ _
   | exact LeO.none _
   | refine LeO.ite ?_ ?_
   | refine LeO.bind ?_ (fun _ => ?_)
  ·
   intro y0 y1 y2 y3 y4 y5 y6 y7 y8 y9 y10 y11
   unfold terrierref04_room.l2
   repeat' first
   | (with_reducible exact ih0 _ _ _ _ _ _ _ _ _)
   | (with_reducible exact ih1 _ _ _)
   | (with_reducible exact ih2 _ _ _ _ _ _ _ _ _ _ _ _)
   | (with_reducible exact ih3 _ _ _ _ _ _ _ _ _ _ _ _ _ _ _ _ _ _ _)
   | (with_reducible exact ih4 _ _ _ _ _ _ _ _ _ _ _ _ _ _ _ _ _ _)
   | (with_reducible exact ih5 _ _ _ _ _ _ _ _ _ _ _ _)
   | (with_reducible exact ih6 _ _ _ _ _ _ _ _ _ _ _ _ _ _ _)
   | (with_reducible exact ih7 _ _ _ _ _ _ _ _ _ _ _ _)
   | (with_reducible exact ih8 _ _ _ _ _ _ _ _ _ _ _ _ _ _)
   | (with_reducible exact terrierref01_Ahead.mono _ _ _)
   | (with_reducible exact terrierref01_Put.mono _ _ _)
   | (with_reducible exact LeO.refl _)
   | (with_reducible exact LeO.none _)
   | (with_reducible refine LeO.ite ?_ ?_)
   | (with_reducible refine LeO.bind ?_ (fun _ => ?_))
   | exact ih0 _ _ _ _ _ _ _ _ _
   | exact ih1 _ _ _
   | exact ih2 _ _ _ _ _ _ _ _ _ _ _ _
   | exact ih3 _ _ _ _ _ _ _ _ _ _ _ _ _ _ _ _ _ _ _
   | exact ih4 _ _ _ _ _ _ _ _ _ _ _ _ _ _ _ _ _ _
   | exact ih5 _ _ _ _ _ _ _ _ _ _ _ _
   | exact ih6 _ _ _ _ _ _ _ _ _ _ _ _ _ _ _
   | exact ih7 _ _ _ _ _ _ _ _ _ _ _ _
   | exact ih8 _ _ _ _ _ _ _ _ _ _ _ _ _ _
   | exact terrierref01_Ahead.mono _ _ _
   | exact terrierref01_Put.mono _ _ _
   | exact LeO.none _
   | refine LeO.ite ?_ ?_
   | refine LeO.bind ?_ (fun _ => ?_)
  ·
   intro y0 y1 y2 y3 y4 y5 y6 y7 y8 y9 y10 y11 y12 y13
   unfold terrierref04_room.j6
   repeat' first
   | (with_reducible exact ih0 _ _ _ _ _ _ _ _ _)
   | (with_reducible exact ih1 _ _ _)
   | (with_reducible exact ih2 _ _ _ _ _ _ _ _ _ _ _ _)
   | (with_reducible exact ih3 _ _ _ _ _ _ _ _ _ _ _ _ _ _ _ _ _ _ _)
   | (with_reducible exact ih4 _ _ _ _ _ _ _ _ _ _ _ _ _ _ _ _ _ _)
   | (with_reducible exact ih5 _ _ _ _ _ _ _ _ _ _ _ _)
   | (with_reducible exact ih6 _ _ _ _ _ _ _ _ _ _ _ _ _ _ _)
   | (with_reducible exact ih7 _ _ _ _ _ _ _ _ _ _ _ _)
   | (with_reducible exact ih8 _ _ _ _ _ _ _ _ _ _ _ _ _ _)
   | (with_reducible exact terrierref01_Ahead.mono _ _ _)
   | (with_reducible exact terrierref01_Put.mono _ _ _)
   | (with_reducible exact LeO.refl _)
   | (with_reducible exact LeO.none _)
   | (with_reducible refine LeO.ite ?_ ?_)
   | (with_reducible refine LeO.bind ?_ (fun _ => ?_))
   | exact ih0 _ _ _ _ _ _ _ _ _
   | exact ih1 _ _ _
   | exact ih2 _ _ _ _ _ _ _ _ _ _ _ _
   | exact ih3 _ _ _ _ _ _ _ _ _ _ _ _ _ _ _ _ _ _ _
   | exact ih4 _ _ _ _ _ _ _ _ _ _ _ _ _ _ _ _ _ _
   | exact ih5 _ _ _ _ _ _ _ _ _ _ _ _
   | exact ih6 _ _ _ _ _ _ _ _ _ _ _ _ _ _ _
   | exact ih7 _ _ _ _ _ _ _ _ _ _ _ _
   | exact ih8 _ _ _ _ _ _ _ _ _ _ _ _ _ _
   | exact terrierref01_Ahead.mono _ _ _
   | exact terrierref01_Put.mono _ _ _
   | exact LeO.none _
   | refine LeO.ite ?_ ?_
   | refine LeO.bind ?_ (fun _ => ?_)
theorem terrierref04_room.mono : ∀ a0 a1 a2 a3 a4 a5 a6 k, LeO (terrierref04_room.f k a0 a1 a2 a3 a4 a5 a6) (terrierref04_room.f (k + 1) a0 a1 a2 a3 a4 a5 a6) := by
 intro a0 a1 a2 a3 a4 a5 a6 k
 obtain ⟨ih0, ih1, ih2, ih3, ih4, ih5, ih6, ih7, ih8⟩ := terrierref04_room.mono_l k; unfold terrierref04_room.f
 repeat' first
   | (with_reducible exact ih0 _ _ _ _ _ _ _ _ _)
   | (with_reducible exact ih1 _ _ _)
   | (with_reducible exact ih2 _ _ _ _ _ _ _ _ _ _ _ _)
   | (with_reducible exact ih3 _ _ _ _ _ _ _ _ _ _ _ _ _ _ _ _ _ _ _)
   | (with_reducible exact ih4 _ _ _ _ _ _ _ _ _ _ _ _ _ _ _ _ _ _)
   | (with_reducible exact ih5 _ _ _ _ _ _ _ _ _ _ _ _)
   | (with_reducible exact ih6 _ _ _ _ _ _ _ _ _ _ _ _ _ _ _)
   | (with_reducible exact ih7 _ _ _ _ _ _ _ _ _ _ _ _)
   | (with_reducible exact ih8 _ _ _ _ _ _ _ _ _ _ _ _ _ _)
   | (with_reducible exact terrierref01_Ahead.mono _ _ _)
   | (with_reducible exact terrierref01_Put.mono _ _ _)
   | (with_reducible exact LeO.refl _)
   | (with_reducible exact LeO.none _)
   | (with_reducible refine LeO.ite ?_ ?_)
   | (with_reducible refine LeO.bind ?_ (fun _ => ?_))
   | exact ih0 _ _ _ _ _ _ _ _ _
   | exact ih1 _ _ _
   | exact ih2 _ _ _ _ _ _ _ _ _ _ _ _
   | exact ih3 _ _ _ _ _ _ _ _ _ _ _ _ _ _ _ _ _ _ _
   | exact ih4 _ _ _ _ _ _ _ _ _ _ _ _ _ _ _ _ _ _
   | exact ih5 _ _ _ _ _ _ _ _ _ _ _ _
   | exact ih6 _ _ _ _ _ _ _ _ _ _ _ _ _ _ _
   | exact ih7 _ _ _ _ _ _ _ _ _ _ _ _
   | exact ih8 _ _ _ _ _ _ _ _ _ _ _ _ _ _
   | exact terrierref01_Ahead.mono _ _ _
   | exact terrierref01_Put.mono _ _ _
   | exact LeO.none _
   | refine LeO.ite ?_ ?_
   | refine LeO.bind ?_ (fun _ => ?_)
def terrierref04_room.T12 : Bool × List (List Nat × List Nat) := (true, [([], []), ([0], [0]), ([1], [1]), ([2], [2]), ([3, 2], [2, 3]), ([2], [2]), ([5, 2], [2, 5]), ([4, 6, 2], [2, 4, 6]), ([7, 2], [2, 7]), ([8, 2], [2, 8]), ([2], [2]), ([10, 2], [2, 10]), ([9, 11, 2, 2], [2, 9, 11]), ([12, 2], [2, 12]), ([2, 13], [2, 13])])
def terrierref04_room.B12 : List Nat := [0, 1, 3, 7, 15, 7, 39, 127, 255, 511, 7, 1031, 4095, 8191, 16383]
theorem terrierref04_room.tab12 : rtab .any (opsOf Try.f27 12) = terrierref04_room.T12 := by kernel_rfl
theorem terrierref04_room.bits12 : waitsOk terrierref04_room.T12.2 terrierref04_room.B12 = true := by kernel_rfl
def terrierref04_room.T25 : Bool × List (List Nat × List Nat) := (true, [([], []), ([0], [0]), ([1], [1]), ([2], [2]), ([3], [3]), ([4], [4]), ([5, 4], [4, 5]), ([6, 4, 4], [4, 6]), ([7, 4], [4, 7]), ([4, 8], [4, 8]), ([9, 7], [9]), ([10], [10]), ([11, 10], [10, 11]), ([12, 10, 10], [10, 12]), ([13], [13]), ([14, 13], [13, 14]), ([13], [13]), ([16, 13], [13, 16]), ([15, 17, 13], [13, 15, 17]), ([18, 13], [13, 18]), ([19, 13], [13, 19]), ([13], [13]), ([21, 13], [13, 21]), ([20, 22, 13, 13], [13, 20, 22]), ([23, 13], [13, 23]), ([13, 24, 10], [10, 13, 24]), ([10, 25], [10, 25])])
def terrierref04_room.B25 : List Nat := [0, 1, 3, 7, 15, 31, 63, 127, 255, 511, 1023, 2047, 4095, 8191, 16383, 32767, 16383, 81919, 262143, 524287, 1048575, 16383, 2113535, 8388607, 16777215, 33554431, 67108863]
theorem terrierref04_room.tab25 : rtab .any (opsOf Try.f27 25) = terrierref04_room.T25 := by kernel_rfl
theorem terrierref04_room.bits25 : waitsOk terrierref04_room.T25.2 terrierref04_room.B25 = true := by kernel_rfl
set_option maxHeartbeats 8000000 in
set_option maxRecDepth 100000 in
theorem terrierref04_room.calls (k : Nat) (a0_0 : Int) (a0_1 : Int) (a0_2 : Int) (P0_3_ : Nat → Prop) (A0_3 : Option Addr) (c0_3 : Nat) (l0_3 : List (S61)) (P0_4_ : Nat → Prop) (A0_4 : Option Addr) (c0_4 : Nat) (l0_4 : List (S62)) (P0_5_ : Nat → Prop) (A0_5 : Option Addr) (c0_5 : Nat) (l0_5 : List Int) (P0_6_ : Nat → Prop) (A0_6 : Option Addr) (c0_6 : Nat) (l0_6 : List Int) (r1 : List Int) (r2 : Int) (r3 : Bool) (w : World) (hs0_3 : Kd.V k61 61 w w.heap.size (fun k_ => P0_3_ k_) (.slice A0_3 l0_3.length c0_3) l0_3) (hs0_4 : Kd.V k62 62 w w.heap.size (fun k_ => P0_4_ k_) (.slice A0_4 l0_4.length c0_4) l0_4) (hs0_5 : Kd.V (Kd.int .u8) 5 w w.heap.size (fun k_ => P0_5_ k_) (.slice A0_5 l0_5.length c0_5) l0_5) (hs0_6 : Kd.V (Kd.int .i64) 3 w w.heap.size (fun k_ => P0_6_ k_) (.slice A0_6 l0_6.length c0_6) l0_6) (h : terrierref04_room.f k a0_0 a0_1 a0_2 l0_3 l0_4 l0_5 l0_6 = some (r1, r2, r3)) :
  Calls Try.prog 27 #[.agg #[.int .i64 a0_0, .int .u64 a0_1, .int .i64 a0_2, .slice A0_3 l0_3.length c0_3, .slice A0_4 l0_4.length c0_4, .slice A0_5 l0_5.length c0_5, .slice A0_6 l0_6.length c0_6]] w fun e w' => ∃ v0_ : Value, e = .returned (.tuple #[v0_, .int .i64 r2, .bool r3]) ∧ Kd.R (Kd.int .u8) 5 w' w.heap.size (ok27_0 w) v0_ r1 ∧ Below w.heap.size w w' := by
 have hu34 := Try.underlying34; have hu61 := Try.underlying61; have hu62 := Try.underlying62; have HO0_3 := Ext.a (show Kd.V k61 61 w w.heap.size (fun k_ => ((P0_3_ k_ ∨ P0_4_ k_ ∨ P0_5_ k_ ∨ P0_6_ k_) ∨ w.heap.size ≤ k_)) (.slice A0_3 l0_3.length c0_3) l0_3 from Kd.V_mono hs0_3 (fun k_ hk => .inl (.inl hk))); have HO0_4 := Ext.a (show Kd.V k62 62 w w.heap.size (fun k_ => ((P0_3_ k_ ∨ P0_4_ k_ ∨ P0_5_ k_ ∨ P0_6_ k_) ∨ w.heap.size ≤ k_)) (.slice A0_4 l0_4.length c0_4) l0_4 from Kd.V_mono hs0_4 (fun k_ hk => .inl (.inr (.inl hk)))); have HO0_5 := Ext.a (show Kd.V (Kd.int .u8) 5 w w.heap.size (fun k_ => ((P0_3_ k_ ∨ P0_4_ k_ ∨ P0_5_ k_ ∨ P0_6_ k_) ∨ w.heap.size ≤ k_)) (.slice A0_5 l0_5.length c0_5) l0_5 from Kd.V_mono hs0_5 (fun k_ hk => .inl (.inr (.inr (.inl hk))))); have HO0_6 := Ext.a (show Kd.V (Kd.int .i64) 3 w w.heap.size (fun k_ => ((P0_3_ k_ ∨ P0_4_ k_ ∨ P0_5_ k_ ∨ P0_6_ k_) ∨ w.heap.size ≤ k_)) (.slice A0_6 l0_6.length c0_6) l0_6 from Kd.V_mono hs0_6 (fun k_ hk => .inl (.inr (.inr (.inr hk))))); have HB := Ext.a (Below.refl w.heap.size w); have H := h; unfold terrierref04_room.f at H; clear h; obtain ⟨y263, hy263⟩ : ∃ y_ : List Int, y_ = (([] : List Int)) := ⟨_, rfl⟩
 replace H : (if a0_0 = 1 then (terrierref04_room.l0 k y263 (l0_3.length : Int) l0_3 (l0_3.length : Int) 0 a0_0 a0_1 a0_2 l0_3 l0_4 l0_5 l0_6) else (if a0_0 = 2 then (terrierref04_room.l1 k y263 (l0_4.length : Int) l0_4 (l0_4.length : Int) 0 a0_0 a0_1 a0_2 l0_3 l0_4 l0_5 l0_6) else (if a0_0 = 3 then (if y263.length + l0_5.length < 140737488355328 then (terrierref04_room.j7 k (y263 ++ l0_5) (l0_5.length : Int) a0_0 a0_1 a0_2 l0_3 l0_4 l0_5 l0_6) else (none)) else (if a0_0 = 4 then (terrierref04_room.l2 k y263 (l0_6.length : Int) l0_6 (l0_6.length : Int) 0 a0_0 a0_1 a0_2 l0_3 l0_4 l0_5 l0_6) else (some (([] : List Int), 0, false)))))) = some (r1, r2, r3) := by first | (rw [hy263]; with_reducible exact H) | (have H2_ := (Option.bind_some _ _).symm.trans H; rw [hy263]; with_reducible exact H2_) | (have H2_ := (Option.bind_some _ _).symm.trans H; with_reducible exact H2_) | with_reducible exact H | (rw [hy263]; exact H) | exact H
 have Ny263 := Aside0.mk hy263; clear hy263; have HC2 := Aside0.mk H; clear H
 go_enter Try.func27, Try.ntmps27
 go_upto_block 0 with (first | ((with_reducible refine gate_dst (N := 1) rfl ?_); (try (refine gate_guard (by rfl) ?_; dsimp only)); refine box_event ?hg (N := 1) ?hd (cs := #[.int .i64 a0_0, .int .u64 a0_1, .int .i64 a0_2, .slice A0_3 l0_3.length c0_3, .slice A0_4 l0_4.length c0_4, .slice A0_5 l0_5.length c0_5, .slice A0_6 l0_6.length c0_6]) (t := 34) ?hr ?_; (case hd => rfl); (case hg => rfl); (case hr => first | (go_simp; done) | (go_simp; rfl)); intro gb262 hg w3 hbox hb; replace HO0_3 := Ext.a (Kd.V_below (Kd.V_elderB (Ext.nV HO0_3.out) gb262 (Nat.le_of_eq hg.symm)) hb); replace HO0_4 := Ext.a (Kd.V_below (Kd.V_elderB (Ext.nV HO0_4.out) gb262 (Nat.le_of_eq hg.symm)) hb); replace HO0_5 := Ext.a (Kd.V_below (Kd.V_elderB (Ext.nV HO0_5.out) gb262 (Nat.le_of_eq hg.symm)) hb); replace HO0_6 := Ext.a (Kd.V_below (Kd.V_elderB (Ext.nV HO0_6.out) gb262 (Nat.le_of_eq hg.symm)) hb); have BK262 := Ext.a (hbox); have GW262 := Ext.gw hg (below_size (Ext.nB HB.out)); have GE262 := Ext.gw hg (below_size (Ext.nB HB.out)); replace HB := Ext.a (below_step (Ext.nB HB.out) hb); clear hb hbox hg) | ((with_reducible refine gate_dst (N := 15) rfl ?_); (try (refine gate_guard (by rfl) ?_; dsimp only)); refine Kd.R_lit (Kd.int .u8) _ 5 ?hg (N := 15) ?hd (xs := ([] : List Int)) (inner := []) (ok := fun _ => True) (okp := fun _ => True) ?hr ?hp (fun _ hk => hk) trivial (Below.refl _ _) (Nat.le_refl _) (by simp) ?_; (case hd => rfl); (case hg => rfl); (case hr => first | (go_simp; done) | (go_simp; rfl)); (case hp => exact (Reps.none _ _)); intro v264 w4 ho5 hb hg_ hnew_; clear hg_ hnew_; (first | rw [← Ny263.out] at ho5 | (simp only [Int.reduceToNat] at ho5; rw [← Ny263.out] at ho5)); replace HO0_3 := Ext.a (Kd.V_elder' (Ext.nV HO0_3.out) (Kd.R_base ho5) hb); replace HO0_4 := Ext.a (Kd.V_elder' (Ext.nV HO0_4.out) (Kd.R_base ho5) hb); replace HO0_5 := Ext.a (Kd.V_elder' (Ext.nV HO0_5.out) (Kd.R_base ho5) hb); replace HO0_6 := Ext.a (Kd.V_elder' (Ext.nV HO0_6.out) (Kd.R_base ho5) hb); have HO265 := Ext.a (Kd.R_lower (Kd.R_newM (M := fun k_ => (w.heap.size ≤ k_)) ho5 (below_size (Ext.s1 GE262.out HB.out)) (fun k_ h_ => h_)) (below_size (Ext.s1 GE262.out HB.out))); replace BK262 := Ext.a (blk_below BK262.out hb); replace HB := Ext.a (below_step (Ext.s1 GE262.out HB.out) hb); clear hb ho5; have hcz6 := Ext.cells7 BK262.out; have hfz6 := Ext.froz7 BK262.out))
 (try simp only [Act.put, Ext.sb, Ext.sz, Ext.ss])
 go_cut [5, 6] (fun v5 v6 wc => ∃ (kq : Nat) (x5_1 : List Int) (x6_1 : Int), v6 = .int .i64 x6_1 ∧ Aside0 (terrierref04_room.j7 kq x5_1 x6_1 a0_0 a0_1 a0_2 l0_3 l0_4 l0_5 l0_6 = some (r1, r2, r3)) ∧ Aside0 (kq ≤ k) ∧ Aside0 (Kd.R (Kd.int .u8) 5 wc w.heap.size (ok27_0 w) v5 x5_1) ∧ Aside0 (Kd.V k61 61 wc w.heap.size (fun k_ => ((P0_3_ k_ ∨ P0_4_ k_ ∨ P0_5_ k_ ∨ P0_6_ k_) ∨ w.heap.size ≤ k_) ∧ some k_ ≠ (v5 : Value).ownBlock ∧ k_ ≠ gb262) (.slice A0_3 l0_3.length c0_3) l0_3) ∧ Aside0 (Kd.V k62 62 wc w.heap.size (fun k_ => ((P0_3_ k_ ∨ P0_4_ k_ ∨ P0_5_ k_ ∨ P0_6_ k_) ∨ w.heap.size ≤ k_) ∧ some k_ ≠ (v5 : Value).ownBlock ∧ k_ ≠ gb262) (.slice A0_4 l0_4.length c0_4) l0_4) ∧ Aside0 (Kd.V (Kd.int .u8) 5 wc w.heap.size (fun k_ => ((P0_3_ k_ ∨ P0_4_ k_ ∨ P0_5_ k_ ∨ P0_6_ k_) ∨ w.heap.size ≤ k_) ∧ some k_ ≠ (v5 : Value).ownBlock ∧ k_ ≠ gb262) (.slice A0_5 l0_5.length c0_5) l0_5) ∧ Aside0 (Kd.V (Kd.int .i64) 3 wc w.heap.size (fun k_ => ((P0_3_ k_ ∨ P0_4_ k_ ∨ P0_5_ k_ ∨ P0_6_ k_) ∨ w.heap.size ≤ k_) ∧ some k_ ≠ (v5 : Value).ownBlock ∧ k_ ≠ gb262) (.slice A0_6 l0_6.length c0_6) l0_6) ∧ Aside0 (wc.heap[gb262]? = some (.cells #[.int .i64 a0_0, .int .u64 a0_1, .int .i64 a0_2, (.slice A0_3 l0_3.length c0_3), (.slice A0_4 l0_4.length c0_4), (.slice A0_5 l0_5.length c0_5), (.slice A0_6 l0_6.length c0_6)] 34 (0, 0))) ∧ Aside0 (Below w.heap.size w wc))
 case first => as_aux_lemma =>
  have H := HC2.out; clear HC2
  by_cases c7 : a0_0 = 1
  ·
   rw [if_pos c7] at H; obtain ⟨c7b0, c7b1⟩ := Ext.eT c7; clear c7
   (first | rw [c7b0] | (simp only [i64_w, i32_w]; rw [c7b0]) | skip)
   have H' := Aside0.mk H; clear H; have hcz8 := Ext.cells7 BK262.out; have hfz8 := Ext.froz7 BK262.out
   go_wp2
   go_loopg [5, 26] k (fun kq v5 v26 w' => ∃ (x5_1 : List Int) (x26_1 : Int), v26 = .int .i64 x26_1 ∧ Aside0 (terrierref04_room.l0 kq x5_1 (l0_3.length : Int) l0_3 (l0_3.length : Int) x26_1 a0_0 a0_1 a0_2 l0_3 l0_4 l0_5 l0_6 = some (r1, r2, r3)) ∧ Aside0 (kq ≤ k) ∧ Aside0 (Kd.R (Kd.int .u8) 5 w' w.heap.size (ok27_0 w) v5 x5_1) ∧ Aside0 (Kd.V k61 61 w' w.heap.size (fun k_ => ((P0_3_ k_ ∨ P0_4_ k_ ∨ P0_5_ k_ ∨ P0_6_ k_) ∨ w.heap.size ≤ k_) ∧ some k_ ≠ (v5 : Value).ownBlock ∧ k_ ≠ gb262) (.slice A0_3 l0_3.length c0_3) l0_3) ∧ Aside0 (Kd.V k61 61 w' w.heap.size (fun k_ => ((P0_3_ k_ ∨ P0_4_ k_ ∨ P0_5_ k_ ∨ P0_6_ k_) ∨ w.heap.size ≤ k_) ∧ some k_ ≠ (v5 : Value).ownBlock ∧ k_ ≠ gb262) (.slice A0_3 l0_3.length c0_3) l0_3) ∧ Aside0 (Kd.V k62 62 w' w.heap.size (fun k_ => ((P0_3_ k_ ∨ P0_4_ k_ ∨ P0_5_ k_ ∨ P0_6_ k_) ∨ w.heap.size ≤ k_) ∧ some k_ ≠ (v5 : Value).ownBlock ∧ k_ ≠ gb262) (.slice A0_4 l0_4.length c0_4) l0_4) ∧ Aside0 (Kd.V (Kd.int .u8) 5 w' w.heap.size (fun k_ => ((P0_3_ k_ ∨ P0_4_ k_ ∨ P0_5_ k_ ∨ P0_6_ k_) ∨ w.heap.size ≤ k_) ∧ some k_ ≠ (v5 : Value).ownBlock ∧ k_ ≠ gb262) (.slice A0_5 l0_5.length c0_5) l0_5) ∧ Aside0 (Kd.V (Kd.int .i64) 3 w' w.heap.size (fun k_ => ((P0_3_ k_ ∨ P0_4_ k_ ∨ P0_5_ k_ ∨ P0_6_ k_) ∨ w.heap.size ≤ k_) ∧ some k_ ≠ (v5 : Value).ownBlock ∧ k_ ≠ gb262) (.slice A0_6 l0_6.length c0_6) l0_6) ∧ Aside0 (w'.heap[gb262]? = some (.cells #[.int .i64 a0_0, .int .u64 a0_1, .int .i64 a0_2, (.slice A0_3 l0_3.length c0_3), (.slice A0_4 l0_4.length c0_4), (.slice A0_5 l0_5.length c0_5), (.slice A0_6 l0_6.length c0_6)] 34 (0, 0))) ∧ Aside0 (Below w.heap.size w w'))
   case atStart => exact ⟨(y263), (0), (by first | rfl | (simp; done) | (simp [*]; done)), H', ⟨Nat.le_refl _⟩, ⟨by (with_reducible repeat (first | apply Kd.R_alloc | apply Kd.R_drewN | apply Kd.R_drew)); exact Kd.R_mono HO265.out (fun _ hk => hk.1)⟩, ⟨by (with_reducible repeat (first | apply Kd.V_alloc | apply Kd.V_drewN | apply Kd.V_drew)); exact Kd.V_mono HO0_3.out (fun _ hk => ⟨hk.1.1, ⟨hk.2, hk.1.2⟩⟩)⟩, ⟨by (with_reducible repeat (first | apply Kd.V_alloc | apply Kd.V_drewN | apply Kd.V_drew)); exact Kd.V_mono HO0_3.out (fun _ hk => ⟨hk.1.1, ⟨hk.2, hk.1.2⟩⟩)⟩, ⟨by (with_reducible repeat (first | apply Kd.V_alloc | apply Kd.V_drewN | apply Kd.V_drew)); exact Kd.V_mono HO0_4.out (fun _ hk => ⟨hk.1.1, ⟨hk.2, hk.1.2⟩⟩)⟩, ⟨by (with_reducible repeat (first | apply Kd.V_alloc | apply Kd.V_drewN | apply Kd.V_drew)); exact Kd.V_mono HO0_5.out (fun _ hk => ⟨hk.1.1, ⟨hk.2, hk.1.2⟩⟩)⟩, ⟨by (with_reducible repeat (first | apply Kd.V_alloc | apply Kd.V_drewN | apply Kd.V_drew)); exact Kd.V_mono HO0_6.out (fun _ hk => ⟨hk.1.1, ⟨hk.2, hk.1.2⟩⟩)⟩, ⟨by exact BK262.out⟩, ⟨by exact Ext.s1 GE262.out HB.out⟩⟩
   case round => as_aux_lemma =>
    clear H'; (try clear c2 p2 c7b0 c7b1 hcz6 hcz8 hfz6 hfz8); obtain ⟨x5_1, x26_1, rfl, HA, HK1, HO_5, HO_24, HO_263003, HO_263004, HO_263005, HO_263006, BK262, HB⟩ := hrel; cases gk with
    | zero => exact absurd HA.out (by simp [terrierref04_room.l0])
    | succ k1 =>
     have H := HA.out; clear HA; simp only [terrierref04_room.l0] at H
     by_cases c9 : x26_1 < (l0_3.length : Int)
     ·
      rw [if_pos c9] at H; have c9b0 := decide_eq_true c9; clear c9
      by_cases c10 : 0 ≤ x26_1
      ·
       rw [if_pos c10] at H; have c10b0 := decide_eq_true c10; clear c10
       by_cases c11 : x26_1 < (l0_3.length : Int)
       ·
        rw [if_pos c11] at H; have c11b0 := decide_eq_true c11; clear c11; have HC12 := Aside0.mk H; clear H; have p266 : 0 ≤ (x26_1 : Int) := of_decide_eq_true (by first | (with_reducible assumption) | assumption); have q266 : x26_1 < (l0_3.length : Int) := of_decide_eq_true (by first | (with_reducible assumption) | assumption); obtain ⟨ad266, A266_0, c266_0, A266_1, c266_1, e266, hx266_0, hx266_1, hx266_2, hx266_3, hl266_0, hi266_0, hl266_1, hi266_1⟩ := at_T61 (Kd.V_reads' HO_24.out).2.2 x26_1 p266 q266; cases e266; obtain ⟨ce266, hce266, hMe266, hcc266⟩ := Kd.V_get HO_24.out z61 x26_1 p266 (by first | exact q266 | exact of_decide_eq_true (by first | (with_reducible assumption) | assumption) | (have e_ := (Kd.V_reads' HO_24.out).1; omega)); obtain ⟨ua266_0, uc266_0, ua266_1, uc266_1, rfl, ul266_0, ge266_0, ul266_1, ge266_1⟩ := k61_openF hMe266; have hv266_0 := hcc266 0 _ rfl; rw [Nat.add_zero] at hv266_0; replace hv266_0 := Option.some.inj (hv266_0.symm.trans hx266_0)
        injection hv266_0 with hva_ hvn_ hvc_
        rw [hva_] at ge266_0; rw [hvc_] at ul266_0; have HL266_0 := Ext.a (show Kd.V (Kd.int .u8) 5 _ w.heap.size _ _ ((rd_T61 l0_3 x26_1).f0) from Kd.V_mk ul266_0 ge266_0); clear hva_ hvn_ hvc_ ge266_0 ul266_0; have hv266_1 := hcc266 1 _ rfl; rw [add_field _ _ 1 (by omega)] at hv266_1; replace hv266_1 := Option.some.inj (hv266_1.symm.trans hx266_1)
        injection hv266_1 with hva_ hvn_ hvc_
        rw [hva_] at ge266_1; rw [hvc_] at ul266_1; have HL266_1 := Ext.a (show Kd.V (Kd.int .u8) 5 _ w.heap.size _ _ ((rd_T61 l0_3 x26_1).f1) from Kd.V_mk ul266_1 ge266_1); clear hva_ hvn_ hvc_ ge266_1 ul266_1; clear hcc266 hce266; have HR266_0 := Aside0.mk hi266_0; have HC266_0 := Aside0.mk hl266_0; clear hi266_0 hl266_0; have HR266_1 := Aside0.mk hi266_1; have HC266_1 := Aside0.mk hl266_1; clear hi266_1 hl266_1; replace p266 := eq_true p266; replace q266 := eq_true q266
        go_upto_region 10 with (first | ((with_reducible refine gate_dst (N := 30) rfl ?_); (try (refine gate_guard (by rfl) ?_; dsimp only)); refine Ext.struct_load (hgd := ?hg) (t := 61) (x := ?vx_30) (ho := ?ho) (cs := [.slice A266_0 ((rd_T61 l0_3 x26_1).f0).length c266_0, .slice A266_1 ((rd_T61 l0_3 x26_1).f1).length c266_1, .int .i64 ((rd_T61 l0_3 x26_1).f2), .int .i64 ((rd_T61 l0_3 x26_1).f3)]) (haddr := ?ha) Try.underlying61 rfl (by kernel_rfl) ⟨hx266_0, hx266_1, hx266_2, hx266_3, trivial⟩ ?_; (case ho => rfl); (case hg => rfl); (case ha => rfl)) | ((with_reducible refine gate_dst (N := 8) rfl ?_); (try (refine gate_guard (by rfl) ?_; dsimp only)); refine Ext.alloc_event (hgd := ?hg) (N := 8) (_hd := ?hd) (t := 61) (ho := ?ho) info61 ?_; (case ho => rfl); (case hd => rfl); (case hg => rfl); intro gb267 hg w13 hbox hb; replace HO_5 := Ext.a (Kd.R_below (Ext.nR HO_5.out) hb); replace HO_24 := Ext.a (Kd.V_below (Kd.V_elderB (Ext.nV HO_24.out) gb267 (Nat.le_of_eq hg.symm)) hb); replace HO_263003 := Ext.a (Kd.V_below (Kd.V_elderB (Ext.nV HO_263003.out) gb267 (Nat.le_of_eq hg.symm)) hb); replace HO_263004 := Ext.a (Kd.V_below (Kd.V_elderB (Ext.nV HO_263004.out) gb267 (Nat.le_of_eq hg.symm)) hb); replace HO_263005 := Ext.a (Kd.V_below (Kd.V_elderB (Ext.nV HO_263005.out) gb267 (Nat.le_of_eq hg.symm)) hb); replace HO_263006 := Ext.a (Kd.V_below (Kd.V_elderB (Ext.nV HO_263006.out) gb267 (Nat.le_of_eq hg.symm)) hb); replace HL266_0 := Ext.a (Kd.V_below (Kd.V_elderB (Ext.nV HL266_0.out) gb267 (Nat.le_of_eq hg.symm)) hb); replace HL266_1 := Ext.a (Kd.V_below (Kd.V_elderB (Ext.nV HL266_1.out) gb267 (Nat.le_of_eq hg.symm)) hb); replace HR266_0 := Ext.a (Kd.C_below (by exact Ext.nC HR266_0.out) hb); replace HR266_1 := Ext.a (Kd.C_below (by exact Ext.nC HR266_1.out) hb); have BK267 := Ext.a (hbox); have GW267 := Ext.gw hg (below_size (Ext.s1 GE262.out HB.out)); have GE267 := Ext.gw hg (below_size (Ext.s1 GE262.out HB.out)); replace HB := Ext.a (below_step (Ext.s1 GE262.out HB.out) hb); have NB262_267 := Ext.nt hg (blk_lt BK262.out); have NB267_262 := Ext.ng hg (blk_lt BK262.out); replace BK262 := Ext.a (blk_below BK262.out hb); clear hb hbox hg; have hnb14 := NB267_262.out; have hnc14 := NB262_267.out; obtain ⟨hcz15_0, hcz15_1, hcz15_2, hcz15_3⟩ := Ext.cells4 BK267.out; obtain ⟨hfz15_0, hfz15_1, hfz15_2, hfz15_3⟩ := Ext.froz4 BK267.out) | ((with_reducible refine gate_store (t := 61) (p := 8) rfl ?_); refine Ext.struct_store (hgd := ?hg) (hN := ?hn) (t := 61) (p := .tmp 8) (x := ?vo_w16) (ho := ?ho) (cells := #[.slice A266_0 ((rd_T61 l0_3 x26_1).f0).length c266_0, .slice A266_1 ((rd_T61 l0_3 x26_1).f1).length c266_1, .int .i64 ((rd_T61 l0_3 x26_1).f2), .int .i64 ((rd_T61 l0_3 x26_1).f3)]) (haddr := ?ha) (hx := ?hx) BK267.out rfl (by kernel_rfl) rfl ?_; (case ho => rfl); (case hg => rfl); (case hn => rfl); (case ha => rfl); (case hx => first | rfl | (go_simp; done)); intro w16 hx_ hk_ hbl_; replace HO_24 := Ext.a (Kd.V_mono (Kd.V_keep (Kd.V_mono (ok := fun k_ => (((((P0_3_ k_ ∨ P0_4_ k_ ∨ P0_5_ k_ ∨ P0_6_ k_) ∨ w.heap.size ≤ k_)) ∧ (some k_ ≠ (u5 : Value).ownBlock ∧ k_ ≠ gb262)) ∧ k_ ≠ gb267)) HO_24.out (fun k_ hk_ => (⟨hk_, hk_.2⟩ : _ ∧ k_ ≠ gb267))) hk_ (fun _ h => h.2)) (fun _ h => h.1)); replace HO_263003 := Ext.a (Kd.V_mono (Kd.V_keep (Kd.V_mono (ok := fun k_ => (((((P0_3_ k_ ∨ P0_4_ k_ ∨ P0_5_ k_ ∨ P0_6_ k_) ∨ w.heap.size ≤ k_)) ∧ (some k_ ≠ (u5 : Value).ownBlock ∧ k_ ≠ gb262)) ∧ k_ ≠ gb267)) HO_263003.out (fun k_ hk_ => (⟨hk_, hk_.2⟩ : _ ∧ k_ ≠ gb267))) hk_ (fun _ h => h.2)) (fun _ h => h.1)); replace HO_263004 := Ext.a (Kd.V_mono (Kd.V_keep (Kd.V_mono (ok := fun k_ => (((((P0_3_ k_ ∨ P0_4_ k_ ∨ P0_5_ k_ ∨ P0_6_ k_) ∨ w.heap.size ≤ k_)) ∧ (some k_ ≠ (u5 : Value).ownBlock ∧ k_ ≠ gb262)) ∧ k_ ≠ gb267)) HO_263004.out (fun k_ hk_ => (⟨hk_, hk_.2⟩ : _ ∧ k_ ≠ gb267))) hk_ (fun _ h => h.2)) (fun _ h => h.1)); replace HO_263005 := Ext.a (Kd.V_mono (Kd.V_keep (Kd.V_mono (ok := fun k_ => (((((P0_3_ k_ ∨ P0_4_ k_ ∨ P0_5_ k_ ∨ P0_6_ k_) ∨ w.heap.size ≤ k_)) ∧ (some k_ ≠ (u5 : Value).ownBlock ∧ k_ ≠ gb262)) ∧ k_ ≠ gb267)) HO_263005.out (fun k_ hk_ => (⟨hk_, hk_.2⟩ : _ ∧ k_ ≠ gb267))) hk_ (fun _ h => h.2)) (fun _ h => h.1)); replace HO_263006 := Ext.a (Kd.V_mono (Kd.V_keep (Kd.V_mono (ok := fun k_ => (((((P0_3_ k_ ∨ P0_4_ k_ ∨ P0_5_ k_ ∨ P0_6_ k_) ∨ w.heap.size ≤ k_)) ∧ (some k_ ≠ (u5 : Value).ownBlock ∧ k_ ≠ gb262)) ∧ k_ ≠ gb267)) HO_263006.out (fun k_ hk_ => (⟨hk_, hk_.2⟩ : _ ∧ k_ ≠ gb267))) hk_ (fun _ h => h.2)) (fun _ h => h.1)); replace HL266_0 := Ext.a (Kd.V_mono (Kd.V_keep (Kd.V_mono (ok := fun k_ => (((((P0_3_ k_ ∨ P0_4_ k_ ∨ P0_5_ k_ ∨ P0_6_ k_) ∨ w.heap.size ≤ k_)) ∧ (some k_ ≠ (u5 : Value).ownBlock ∧ k_ ≠ gb262)) ∧ k_ ≠ gb267)) HL266_0.out (fun k_ hk_ => (⟨hk_, hk_.2⟩ : _ ∧ k_ ≠ gb267))) hk_ (fun _ h => h.2)) (fun _ h => h.1)); replace HL266_1 := Ext.a (Kd.V_mono (Kd.V_keep (Kd.V_mono (ok := fun k_ => (((((P0_3_ k_ ∨ P0_4_ k_ ∨ P0_5_ k_ ∨ P0_6_ k_) ∨ w.heap.size ≤ k_)) ∧ (some k_ ≠ (u5 : Value).ownBlock ∧ k_ ≠ gb262)) ∧ k_ ≠ gb267)) HL266_1.out (fun k_ hk_ => (⟨hk_, hk_.2⟩ : _ ∧ k_ ≠ gb267))) hk_ (fun _ h => h.2)) (fun _ h => h.1)); replace HO_5 := Ext.a (Kd.R_mono (Kd.R_keep (Kd.R_types HO_5.out BK267.out (by decide)) hk_ (fun _ h => h.2)) (fun _ h => h.1)); replace BK262 := Ext.a (KeepBut.blk hk_ BK262.out NB262_267.out (by simp)); replace BK267 := Ext.a (hx_); replace HB := Ext.a (hbl_ _ _ HB.out GE267.out); clear hx_ hk_ hbl_; obtain ⟨hcz17_0, hcz17_1, hcz17_2, hcz17_3⟩ := Ext.cells4 BK267.out; obtain ⟨hfz17_0, hfz17_1, hfz17_2, hfz17_3⟩ := Ext.froz4 BK267.out))
        (try simp only [Act.put, Ext.sb, Ext.sz, Ext.ss])
        go_cut [9, 79] (fun v9 v79 wc => ∃ (kq : Nat) (x79_11 : Bool), v9 = .bool (decide (((rd_T61 l0_3 x26_1).f2) ≤ 64)) ∧ v79 = .bool x79_11 ∧ Aside0 (terrierref04_room.j1 kq x5_1 (l0_3.length : Int) x26_1 (decide (((rd_T61 l0_3 x26_1).f2) ≤ 64)) l0_3 (l0_3.length : Int) x26_1 x79_11 a0_0 a0_1 a0_2 l0_3 l0_4 l0_5 l0_6 ((rd_T61 l0_3 x26_1).f0) ((rd_T61 l0_3 x26_1).f1) ((rd_T61 l0_3 x26_1).f2) ((rd_T61 l0_3 x26_1).f3) = some (r1, r2, r3)) ∧ Aside0 (kq ≤ k1) ∧ Aside0 (Kd.R (Kd.int .u8) 5 wc w.heap.size (ok27_0 w) u5 x5_1) ∧ Aside0 (Kd.V k61 61 wc w.heap.size (fun k_ => ((P0_3_ k_ ∨ P0_4_ k_ ∨ P0_5_ k_ ∨ P0_6_ k_) ∨ w.heap.size ≤ k_) ∧ some k_ ≠ (u5 : Value).ownBlock ∧ k_ ≠ gb262 ∧ k_ ≠ gb267) (.slice (some ad266) l0_3.length c0_3) l0_3) ∧ Aside0 (Kd.V k61 61 wc w.heap.size (fun k_ => ((P0_3_ k_ ∨ P0_4_ k_ ∨ P0_5_ k_ ∨ P0_6_ k_) ∨ w.heap.size ≤ k_) ∧ some k_ ≠ (u5 : Value).ownBlock ∧ k_ ≠ gb262 ∧ k_ ≠ gb267) (.slice (some ad266) l0_3.length c0_3) l0_3) ∧ Aside0 (Kd.V k62 62 wc w.heap.size (fun k_ => ((P0_3_ k_ ∨ P0_4_ k_ ∨ P0_5_ k_ ∨ P0_6_ k_) ∨ w.heap.size ≤ k_) ∧ some k_ ≠ (u5 : Value).ownBlock ∧ k_ ≠ gb262 ∧ k_ ≠ gb267) (.slice A0_4 l0_4.length c0_4) l0_4) ∧ Aside0 (Kd.V (Kd.int .u8) 5 wc w.heap.size (fun k_ => ((P0_3_ k_ ∨ P0_4_ k_ ∨ P0_5_ k_ ∨ P0_6_ k_) ∨ w.heap.size ≤ k_) ∧ some k_ ≠ (u5 : Value).ownBlock ∧ k_ ≠ gb262 ∧ k_ ≠ gb267) (.slice A0_5 l0_5.length c0_5) l0_5) ∧ Aside0 (Kd.V (Kd.int .i64) 3 wc w.heap.size (fun k_ => ((P0_3_ k_ ∨ P0_4_ k_ ∨ P0_5_ k_ ∨ P0_6_ k_) ∨ w.heap.size ≤ k_) ∧ some k_ ≠ (u5 : Value).ownBlock ∧ k_ ≠ gb262 ∧ k_ ≠ gb267) (.slice A0_6 l0_6.length c0_6) l0_6) ∧ Aside0 (Kd.V (Kd.int .u8) 5 wc w.heap.size (fun k_ => ((P0_3_ k_ ∨ P0_4_ k_ ∨ P0_5_ k_ ∨ P0_6_ k_) ∨ w.heap.size ≤ k_) ∧ some k_ ≠ (u5 : Value).ownBlock ∧ k_ ≠ gb262 ∧ k_ ≠ gb267) (.slice A266_0 ((rd_T61 l0_3 x26_1).f0).length c266_0) ((rd_T61 l0_3 x26_1).f0)) ∧ Aside0 (Kd.V (Kd.int .u8) 5 wc w.heap.size (fun k_ => ((P0_3_ k_ ∨ P0_4_ k_ ∨ P0_5_ k_ ∨ P0_6_ k_) ∨ w.heap.size ≤ k_) ∧ some k_ ≠ (u5 : Value).ownBlock ∧ k_ ≠ gb262 ∧ k_ ≠ gb267) (.slice A266_1 ((rd_T61 l0_3 x26_1).f1).length c266_1) ((rd_T61 l0_3 x26_1).f1)) ∧ Aside0 (wc.heap[gb262]? = some (.cells #[.int .i64 a0_0, .int .u64 a0_1, .int .i64 a0_2, (.slice (some ad266) l0_3.length c0_3), (.slice A0_4 l0_4.length c0_4), (.slice A0_5 l0_5.length c0_5), (.slice A0_6 l0_6.length c0_6)] 34 (0, 0))) ∧ Aside0 (wc.heap[gb267]? = some (.cells #[(.slice A266_0 ((rd_T61 l0_3 x26_1).f0).length c266_0), (.slice A266_1 ((rd_T61 l0_3 x26_1).f1).length c266_1), .int .i64 ((rd_T61 l0_3 x26_1).f2), .int .i64 ((rd_T61 l0_3 x26_1).f3)] 61 (0, 0))) ∧ Aside0 (Below w.heap.size w wc))
        case first => as_aux_lemma =>
         have H := HC12.out; clear HC12
         by_cases c18 : (((rd_T61 l0_3 x26_1).f0).length : Int) > 32
         ·
          rw [if_pos c18] at H; have c18b0 := decide_eq_true c18; have c18b1 : decide (32 < ((rd_T61 l0_3 x26_1).f0).length) = true := decide_eq_true (by omega); clear c18
          (first | rw [c18b0] | (simp only [i64_w, i32_w]; rw [c18b0]) | skip)
          have H' := Aside0.mk H; clear H; have hnb19 := NB267_262.out; have hnc19 := NB262_267.out; obtain ⟨hcz20_0, hcz20_1, hcz20_2, hcz20_3⟩ := Ext.cells4 BK267.out; obtain ⟨hfz20_0, hfz20_1, hfz20_2, hfz20_3⟩ := Ext.froz4 BK267.out
          as_aux_lemma =>
           go_wp2
           go_meet
           case rel => exact ⟨_, (true), (by first | rfl | (simp; done) | (simp [*]; done)), (by first | rfl | (simp; done) | (simp [*]; done)), H', ⟨by have := HK1.out; first | omega | exact Nat.le_refl _⟩, ⟨by exact Ext.nR HO_5.out⟩, ⟨by (with_reducible repeat (first | apply Kd.V_alloc | apply Kd.V_drewN | apply Kd.V_drew)); exact Kd.V_mono HO_24.out (fun _ hk => ⟨hk.1.1, ⟨hk.1.2.1, ⟨hk.1.2.2, hk.2⟩⟩⟩)⟩, ⟨by (with_reducible repeat (first | apply Kd.V_alloc | apply Kd.V_drewN | apply Kd.V_drew)); exact Kd.V_mono HO_263003.out (fun _ hk => ⟨hk.1.1, ⟨hk.1.2.1, ⟨hk.1.2.2, hk.2⟩⟩⟩)⟩, ⟨by (with_reducible repeat (first | apply Kd.V_alloc | apply Kd.V_drewN | apply Kd.V_drew)); exact Kd.V_mono HO_263004.out (fun _ hk => ⟨hk.1.1, ⟨hk.1.2.1, ⟨hk.1.2.2, hk.2⟩⟩⟩)⟩, ⟨by (with_reducible repeat (first | apply Kd.V_alloc | apply Kd.V_drewN | apply Kd.V_drew)); exact Kd.V_mono HO_263005.out (fun _ hk => ⟨hk.1.1, ⟨hk.1.2.1, ⟨hk.1.2.2, hk.2⟩⟩⟩)⟩, ⟨by (with_reducible repeat (first | apply Kd.V_alloc | apply Kd.V_drewN | apply Kd.V_drew)); exact Kd.V_mono HO_263006.out (fun _ hk => ⟨hk.1.1, ⟨hk.1.2.1, ⟨hk.1.2.2, hk.2⟩⟩⟩)⟩, ⟨by (with_reducible repeat (first | apply Kd.V_alloc | apply Kd.V_drewN | apply Kd.V_drew)); exact Kd.V_mono HL266_0.out (fun _ hk => ⟨hk.1.1, ⟨hk.1.2.1, ⟨hk.1.2.2, hk.2⟩⟩⟩)⟩, ⟨by (with_reducible repeat (first | apply Kd.V_alloc | apply Kd.V_drewN | apply Kd.V_drew)); exact Kd.V_mono HL266_1.out (fun _ hk => ⟨hk.1.1, ⟨hk.1.2.1, ⟨hk.1.2.2, hk.2⟩⟩⟩)⟩, ⟨by exact BK262.out⟩, ⟨by exact BK267.out⟩, ⟨by exact Ext.s2 GE262.out GE267.out HB.out⟩⟩
         ·
          rw [if_neg c18] at H; have c18b0 := decide_eq_false c18; have c18b1 : decide (32 < ((rd_T61 l0_3 x26_1).f0).length) = false := decide_eq_false (by omega); clear c18
          (first | rw [c18b0] | (simp only [i64_w, i32_w]; rw [c18b0]) | skip)
          by_cases c21 : ((rd_T61 l0_3 x26_1).f2) < 0
          ·
           rw [if_pos c21] at H; have c21b0 := decide_eq_true c21; clear c21; have H' := Aside0.mk H; clear H; have hnb22 := NB267_262.out; have hnc22 := NB262_267.out; obtain ⟨hcz23_0, hcz23_1, hcz23_2, hcz23_3⟩ := Ext.cells4 BK267.out; obtain ⟨hfz23_0, hfz23_1, hfz23_2, hfz23_3⟩ := Ext.froz4 BK267.out
           as_aux_lemma =>
            go_wp2
            go_meet
            case rel => exact ⟨_, (true), (by first | rfl | (simp; done) | (simp [*]; done)), (by first | rfl | (simp; done) | (simp [*]; done)), H', ⟨by have := HK1.out; first | omega | exact Nat.le_refl _⟩, ⟨by exact Ext.nR HO_5.out⟩, ⟨by (with_reducible repeat (first | apply Kd.V_alloc | apply Kd.V_drewN | apply Kd.V_drew)); exact Kd.V_mono HO_24.out (fun _ hk => ⟨hk.1.1, ⟨hk.1.2.1, ⟨hk.1.2.2, hk.2⟩⟩⟩)⟩, ⟨by (with_reducible repeat (first | apply Kd.V_alloc | apply Kd.V_drewN | apply Kd.V_drew)); exact Kd.V_mono HO_263003.out (fun _ hk => ⟨hk.1.1, ⟨hk.1.2.1, ⟨hk.1.2.2, hk.2⟩⟩⟩)⟩, ⟨by (with_reducible repeat (first | apply Kd.V_alloc | apply Kd.V_drewN | apply Kd.V_drew)); exact Kd.V_mono HO_263004.out (fun _ hk => ⟨hk.1.1, ⟨hk.1.2.1, ⟨hk.1.2.2, hk.2⟩⟩⟩)⟩, ⟨by (with_reducible repeat (first | apply Kd.V_alloc | apply Kd.V_drewN | apply Kd.V_drew)); exact Kd.V_mono HO_263005.out (fun _ hk => ⟨hk.1.1, ⟨hk.1.2.1, ⟨hk.1.2.2, hk.2⟩⟩⟩)⟩, ⟨by (with_reducible repeat (first | apply Kd.V_alloc | apply Kd.V_drewN | apply Kd.V_drew)); exact Kd.V_mono HO_263006.out (fun _ hk => ⟨hk.1.1, ⟨hk.1.2.1, ⟨hk.1.2.2, hk.2⟩⟩⟩)⟩, ⟨by (with_reducible repeat (first | apply Kd.V_alloc | apply Kd.V_drewN | apply Kd.V_drew)); exact Kd.V_mono HL266_0.out (fun _ hk => ⟨hk.1.1, ⟨hk.1.2.1, ⟨hk.1.2.2, hk.2⟩⟩⟩)⟩, ⟨by (with_reducible repeat (first | apply Kd.V_alloc | apply Kd.V_drewN | apply Kd.V_drew)); exact Kd.V_mono HL266_1.out (fun _ hk => ⟨hk.1.1, ⟨hk.1.2.1, ⟨hk.1.2.2, hk.2⟩⟩⟩)⟩, ⟨by exact BK262.out⟩, ⟨by exact BK267.out⟩, ⟨by exact Ext.s2 GE262.out GE267.out HB.out⟩⟩
          ·
           rw [if_neg c21] at H; have c21b0 := decide_eq_false c21; clear c21
           by_cases c24 : ((rd_T61 l0_3 x26_1).f2) > 4096
           ·
            rw [if_pos c24] at H; have c24b0 := decide_eq_true c24; clear c24; have H' := Aside0.mk H; clear H; have hnb25 := NB267_262.out; have hnc25 := NB262_267.out; obtain ⟨hcz26_0, hcz26_1, hcz26_2, hcz26_3⟩ := Ext.cells4 BK267.out; obtain ⟨hfz26_0, hfz26_1, hfz26_2, hfz26_3⟩ := Ext.froz4 BK267.out
            as_aux_lemma =>
             go_wp2
             go_meet
             case rel => exact ⟨_, (true), (by first | rfl | (simp; done) | (simp [*]; done)), (by first | rfl | (simp; done) | (simp [*]; done)), H', ⟨by have := HK1.out; first | omega | exact Nat.le_refl _⟩, ⟨by exact Ext.nR HO_5.out⟩, ⟨by (with_reducible repeat (first | apply Kd.V_alloc | apply Kd.V_drewN | apply Kd.V_drew)); exact Kd.V_mono HO_24.out (fun _ hk => ⟨hk.1.1, ⟨hk.1.2.1, ⟨hk.1.2.2, hk.2⟩⟩⟩)⟩, ⟨by (with_reducible repeat (first | apply Kd.V_alloc | apply Kd.V_drewN | apply Kd.V_drew)); exact Kd.V_mono HO_263003.out (fun _ hk => ⟨hk.1.1, ⟨hk.1.2.1, ⟨hk.1.2.2, hk.2⟩⟩⟩)⟩, ⟨by (with_reducible repeat (first | apply Kd.V_alloc | apply Kd.V_drewN | apply Kd.V_drew)); exact Kd.V_mono HO_263004.out (fun _ hk => ⟨hk.1.1, ⟨hk.1.2.1, ⟨hk.1.2.2, hk.2⟩⟩⟩)⟩, ⟨by (with_reducible repeat (first | apply Kd.V_alloc | apply Kd.V_drewN | apply Kd.V_drew)); exact Kd.V_mono HO_263005.out (fun _ hk => ⟨hk.1.1, ⟨hk.1.2.1, ⟨hk.1.2.2, hk.2⟩⟩⟩)⟩, ⟨by (with_reducible repeat (first | apply Kd.V_alloc | apply Kd.V_drewN | apply Kd.V_drew)); exact Kd.V_mono HO_263006.out (fun _ hk => ⟨hk.1.1, ⟨hk.1.2.1, ⟨hk.1.2.2, hk.2⟩⟩⟩)⟩, ⟨by (with_reducible repeat (first | apply Kd.V_alloc | apply Kd.V_drewN | apply Kd.V_drew)); exact Kd.V_mono HL266_0.out (fun _ hk => ⟨hk.1.1, ⟨hk.1.2.1, ⟨hk.1.2.2, hk.2⟩⟩⟩)⟩, ⟨by (with_reducible repeat (first | apply Kd.V_alloc | apply Kd.V_drewN | apply Kd.V_drew)); exact Kd.V_mono HL266_1.out (fun _ hk => ⟨hk.1.1, ⟨hk.1.2.1, ⟨hk.1.2.2, hk.2⟩⟩⟩)⟩, ⟨by exact BK262.out⟩, ⟨by exact BK267.out⟩, ⟨by exact Ext.s2 GE262.out GE267.out HB.out⟩⟩
           ·
            rw [if_neg c24] at H; have c24b0 := decide_eq_false c24; clear c24
            by_cases c27 : ((rd_T61 l0_3 x26_1).f2) ≤ 64
            ·
             rw [if_pos c27] at H; have c27b0 := decide_eq_true c27; clear c27
             by_cases c28 : (((rd_T61 l0_3 x26_1).f1).length : Int) = ((rd_T61 l0_3 x26_1).f2)
             ·
              rw [if_pos c28] at H; obtain ⟨c28b0, c28b1⟩ := Ext.eT c28; clear c28
              by_cases c29 : ((rd_T61 l0_3 x26_1).f3) = 0
              ·
               rw [if_pos c29] at H; obtain ⟨c29b0, c29b1⟩ := Ext.eT c29; clear c29
               by_cases c30 : (((rd_T61 l0_3 x26_1).f2) ≤ 64)
               ·
                rw [if_pos c30] at H; have c30b0 := decide_eq_true c30; clear c30; have H' := Aside0.mk H; clear H; have hnb31 := NB267_262.out; have hnc31 := NB262_267.out; obtain ⟨hcz32_0, hcz32_1, hcz32_2, hcz32_3⟩ := Ext.cells4 BK267.out; obtain ⟨hfz32_0, hfz32_1, hfz32_2, hfz32_3⟩ := Ext.froz4 BK267.out
                as_aux_lemma =>
                 go_wp2
                 go_meet
                 case rel => exact ⟨_, (false), (by first | rfl | (simp; done) | (simp [*]; done)), (by first | rfl | (simp; done) | (simp [*]; done)), H', ⟨by have := HK1.out; first | omega | exact Nat.le_refl _⟩, ⟨by exact Ext.nR HO_5.out⟩, ⟨by (with_reducible repeat (first | apply Kd.V_alloc | apply Kd.V_drewN | apply Kd.V_drew)); exact Kd.V_mono HO_24.out (fun _ hk => ⟨hk.1.1, ⟨hk.1.2.1, ⟨hk.1.2.2, hk.2⟩⟩⟩)⟩, ⟨by (with_reducible repeat (first | apply Kd.V_alloc | apply Kd.V_drewN | apply Kd.V_drew)); exact Kd.V_mono HO_263003.out (fun _ hk => ⟨hk.1.1, ⟨hk.1.2.1, ⟨hk.1.2.2, hk.2⟩⟩⟩)⟩, ⟨by (with_reducible repeat (first | apply Kd.V_alloc | apply Kd.V_drewN | apply Kd.V_drew)); exact Kd.V_mono HO_263004.out (fun _ hk => ⟨hk.1.1, ⟨hk.1.2.1, ⟨hk.1.2.2, hk.2⟩⟩⟩)⟩, ⟨by (with_reducible repeat (first | apply Kd.V_alloc | apply Kd.V_drewN | apply Kd.V_drew)); exact Kd.V_mono HO_263005.out (fun _ hk => ⟨hk.1.1, ⟨hk.1.2.1, ⟨hk.1.2.2, hk.2⟩⟩⟩)⟩, ⟨by (with_reducible repeat (first | apply Kd.V_alloc | apply Kd.V_drewN | apply Kd.V_drew)); exact Kd.V_mono HO_263006.out (fun _ hk => ⟨hk.1.1, ⟨hk.1.2.1, ⟨hk.1.2.2, hk.2⟩⟩⟩)⟩, ⟨by (with_reducible repeat (first | apply Kd.V_alloc | apply Kd.V_drewN | apply Kd.V_drew)); exact Kd.V_mono HL266_0.out (fun _ hk => ⟨hk.1.1, ⟨hk.1.2.1, ⟨hk.1.2.2, hk.2⟩⟩⟩)⟩, ⟨by (with_reducible repeat (first | apply Kd.V_alloc | apply Kd.V_drewN | apply Kd.V_drew)); exact Kd.V_mono HL266_1.out (fun _ hk => ⟨hk.1.1, ⟨hk.1.2.1, ⟨hk.1.2.2, hk.2⟩⟩⟩)⟩, ⟨by exact BK262.out⟩, ⟨by exact BK267.out⟩, ⟨by exact Ext.s2 GE262.out GE267.out HB.out⟩⟩
               ·
                exact absurd (of_decide_eq_true c27b0) c30
              ·
               rw [if_neg c29] at H; obtain ⟨c29b0, c29b1⟩ := Ext.eF c29; have H' := Aside0.mk H; clear H; have hnb39 := NB267_262.out; have hnc39 := NB262_267.out; obtain ⟨hcz40_0, hcz40_1, hcz40_2, hcz40_3⟩ := Ext.cells4 BK267.out; obtain ⟨hfz40_0, hfz40_1, hfz40_2, hfz40_3⟩ := Ext.froz4 BK267.out
               as_aux_lemma =>
                go_wp2
                go_meet
                case rel => exact ⟨_, (true), (by first | rfl | (simp; done) | (simp [*]; done)), (by first | rfl | (simp; done) | (simp [*]; done)), H', ⟨by have := HK1.out; first | omega | exact Nat.le_refl _⟩, ⟨by exact Ext.nR HO_5.out⟩, ⟨by (with_reducible repeat (first | apply Kd.V_alloc | apply Kd.V_drewN | apply Kd.V_drew)); exact Kd.V_mono HO_24.out (fun _ hk => ⟨hk.1.1, ⟨hk.1.2.1, ⟨hk.1.2.2, hk.2⟩⟩⟩)⟩, ⟨by (with_reducible repeat (first | apply Kd.V_alloc | apply Kd.V_drewN | apply Kd.V_drew)); exact Kd.V_mono HO_263003.out (fun _ hk => ⟨hk.1.1, ⟨hk.1.2.1, ⟨hk.1.2.2, hk.2⟩⟩⟩)⟩, ⟨by (with_reducible repeat (first | apply Kd.V_alloc | apply Kd.V_drewN | apply Kd.V_drew)); exact Kd.V_mono HO_263004.out (fun _ hk => ⟨hk.1.1, ⟨hk.1.2.1, ⟨hk.1.2.2, hk.2⟩⟩⟩)⟩, ⟨by (with_reducible repeat (first | apply Kd.V_alloc | apply Kd.V_drewN | apply Kd.V_drew)); exact Kd.V_mono HO_263005.out (fun _ hk => ⟨hk.1.1, ⟨hk.1.2.1, ⟨hk.1.2.2, hk.2⟩⟩⟩)⟩, ⟨by (with_reducible repeat (first | apply Kd.V_alloc | apply Kd.V_drewN | apply Kd.V_drew)); exact Kd.V_mono HO_263006.out (fun _ hk => ⟨hk.1.1, ⟨hk.1.2.1, ⟨hk.1.2.2, hk.2⟩⟩⟩)⟩, ⟨by (with_reducible repeat (first | apply Kd.V_alloc | apply Kd.V_drewN | apply Kd.V_drew)); exact Kd.V_mono HL266_0.out (fun _ hk => ⟨hk.1.1, ⟨hk.1.2.1, ⟨hk.1.2.2, hk.2⟩⟩⟩)⟩, ⟨by (with_reducible repeat (first | apply Kd.V_alloc | apply Kd.V_drewN | apply Kd.V_drew)); exact Kd.V_mono HL266_1.out (fun _ hk => ⟨hk.1.1, ⟨hk.1.2.1, ⟨hk.1.2.2, hk.2⟩⟩⟩)⟩, ⟨by exact BK262.out⟩, ⟨by exact BK267.out⟩, ⟨by exact Ext.s2 GE262.out GE267.out HB.out⟩⟩
             ·
              rw [if_neg c28] at H; obtain ⟨c28b0, c28b1⟩ := Ext.eF c28; have H' := Aside0.mk H; clear H; have hnb41 := NB267_262.out; have hnc41 := NB262_267.out; obtain ⟨hcz42_0, hcz42_1, hcz42_2, hcz42_3⟩ := Ext.cells4 BK267.out; obtain ⟨hfz42_0, hfz42_1, hfz42_2, hfz42_3⟩ := Ext.froz4 BK267.out
              as_aux_lemma =>
               go_wp2
               go_meet
               case rel => exact ⟨_, (true), (by first | rfl | (simp; done) | (simp [*]; done)), (by first | rfl | (simp; done) | (simp [*]; done)), H', ⟨by have := HK1.out; first | omega | exact Nat.le_refl _⟩, ⟨by exact Ext.nR HO_5.out⟩, ⟨by (with_reducible repeat (first | apply Kd.V_alloc | apply Kd.V_drewN | apply Kd.V_drew)); exact Kd.V_mono HO_24.out (fun _ hk => ⟨hk.1.1, ⟨hk.1.2.1, ⟨hk.1.2.2, hk.2⟩⟩⟩)⟩, ⟨by (with_reducible repeat (first | apply Kd.V_alloc | apply Kd.V_drewN | apply Kd.V_drew)); exact Kd.V_mono HO_263003.out (fun _ hk => ⟨hk.1.1, ⟨hk.1.2.1, ⟨hk.1.2.2, hk.2⟩⟩⟩)⟩, ⟨by (with_reducible repeat (first | apply Kd.V_alloc | apply Kd.V_drewN | apply Kd.V_drew)); exact Kd.V_mono HO_263004.out (fun _ hk => ⟨hk.1.1, ⟨hk.1.2.1, ⟨hk.1.2.2, hk.2⟩⟩⟩)⟩, ⟨by (with_reducible repeat (first | apply Kd.V_alloc | apply Kd.V_drewN | apply Kd.V_drew)); exact Kd.V_mono HO_263005.out (fun _ hk => ⟨hk.1.1, ⟨hk.1.2.1, ⟨hk.1.2.2, hk.2⟩⟩⟩)⟩, ⟨by (with_reducible repeat (first | apply Kd.V_alloc | apply Kd.V_drewN | apply Kd.V_drew)); exact Kd.V_mono HO_263006.out (fun _ hk => ⟨hk.1.1, ⟨hk.1.2.1, ⟨hk.1.2.2, hk.2⟩⟩⟩)⟩, ⟨by (with_reducible repeat (first | apply Kd.V_alloc | apply Kd.V_drewN | apply Kd.V_drew)); exact Kd.V_mono HL266_0.out (fun _ hk => ⟨hk.1.1, ⟨hk.1.2.1, ⟨hk.1.2.2, hk.2⟩⟩⟩)⟩, ⟨by (with_reducible repeat (first | apply Kd.V_alloc | apply Kd.V_drewN | apply Kd.V_drew)); exact Kd.V_mono HL266_1.out (fun _ hk => ⟨hk.1.1, ⟨hk.1.2.1, ⟨hk.1.2.2, hk.2⟩⟩⟩)⟩, ⟨by exact BK262.out⟩, ⟨by exact BK267.out⟩, ⟨by exact Ext.s2 GE262.out GE267.out HB.out⟩⟩
            ·
             rw [if_neg c27] at H; have c27b0 := decide_eq_false c27; clear c27
             by_cases c43 : (((rd_T61 l0_3 x26_1).f2) ≤ 64)
             ·
              exact absurd c43 (of_decide_eq_false c27b0)
             ·
              rw [if_neg c43] at H; have c43b0 := decide_eq_false c43; clear c43
              by_cases c46 : (((rd_T61 l0_3 x26_1).f1).length : Int) = 0
              ·
               rw [if_pos c46] at H; obtain ⟨c46b0, c46b1⟩ := Ext.eT c46; clear c46; replace H := Option.bind_eq_some_iff.mp H; obtain ⟨t269, A470, H⟩ := H; (try dsimp only at H); have A47 := Aside0.mk A470; clear A470; have H' := Aside0.mk H; clear H; have hnb48 := NB267_262.out; have hnc48 := NB262_267.out; obtain ⟨hcz49_0, hcz49_1, hcz49_2, hcz49_3⟩ := Ext.cells4 BK267.out; obtain ⟨hfz49_0, hfz49_1, hfz49_2, hfz49_3⟩ := Ext.froz4 BK267.out
               go_wp2_with (first | (go_at_call 44; (with_reducible refine (terrierref04_id.calls ((rd_T61 l0_3 x26_1).f3) t269 _ A47.out).mono ?_); rintro e w' ⟨rfl, ⟨nd, rfl⟩⟩))
               go_meet
               case rel => exact ⟨_, (!t269), (by first | rfl | (simp; done) | (simp [*]; done)), (by first | rfl | (simp; done) | (simp [*]; done)), H', ⟨by have := HK1.out; first | omega | exact Nat.le_refl _⟩, ⟨by exact Ext.nR HO_5.out⟩, ⟨by (with_reducible repeat (first | apply Kd.V_alloc | apply Kd.V_drewN | apply Kd.V_drew)); exact Kd.V_mono HO_24.out (fun _ hk => ⟨hk.1.1, ⟨hk.1.2.1, ⟨hk.1.2.2, hk.2⟩⟩⟩)⟩, ⟨by (with_reducible repeat (first | apply Kd.V_alloc | apply Kd.V_drewN | apply Kd.V_drew)); exact Kd.V_mono HO_263003.out (fun _ hk => ⟨hk.1.1, ⟨hk.1.2.1, ⟨hk.1.2.2, hk.2⟩⟩⟩)⟩, ⟨by (with_reducible repeat (first | apply Kd.V_alloc | apply Kd.V_drewN | apply Kd.V_drew)); exact Kd.V_mono HO_263004.out (fun _ hk => ⟨hk.1.1, ⟨hk.1.2.1, ⟨hk.1.2.2, hk.2⟩⟩⟩)⟩, ⟨by (with_reducible repeat (first | apply Kd.V_alloc | apply Kd.V_drewN | apply Kd.V_drew)); exact Kd.V_mono HO_263005.out (fun _ hk => ⟨hk.1.1, ⟨hk.1.2.1, ⟨hk.1.2.2, hk.2⟩⟩⟩)⟩, ⟨by (with_reducible repeat (first | apply Kd.V_alloc | apply Kd.V_drewN | apply Kd.V_drew)); exact Kd.V_mono HO_263006.out (fun _ hk => ⟨hk.1.1, ⟨hk.1.2.1, ⟨hk.1.2.2, hk.2⟩⟩⟩)⟩, ⟨by (with_reducible repeat (first | apply Kd.V_alloc | apply Kd.V_drewN | apply Kd.V_drew)); exact Kd.V_mono HL266_0.out (fun _ hk => ⟨hk.1.1, ⟨hk.1.2.1, ⟨hk.1.2.2, hk.2⟩⟩⟩)⟩, ⟨by (with_reducible repeat (first | apply Kd.V_alloc | apply Kd.V_drewN | apply Kd.V_drew)); exact Kd.V_mono HL266_1.out (fun _ hk => ⟨hk.1.1, ⟨hk.1.2.1, ⟨hk.1.2.2, hk.2⟩⟩⟩)⟩, ⟨by (with_reducible repeat (first | refine blk_drewN ?_ _ | refine blk_drew ?_ | refine blk_alloc ?_ _)); exact BK262.out⟩, ⟨by (with_reducible repeat (first | refine blk_drewN ?_ _ | refine blk_drew ?_ | refine blk_alloc ?_ _)); exact BK267.out⟩, ⟨by exact Ext.s2 GE262.out GE267.out HB.out⟩⟩
              ·
               rw [if_neg c46] at H; obtain ⟨c46b0, c46b1⟩ := Ext.eF c46
               have c46b2 : ¬ (((rd_T61 l0_3 x26_1).f1) = []) := fun h_ => c46 (by rw [h_]; rfl)
               have H' := Aside0.mk H; clear H; have hnb50 := NB267_262.out; have hnc50 := NB262_267.out; obtain ⟨hcz51_0, hcz51_1, hcz51_2, hcz51_3⟩ := Ext.cells4 BK267.out; obtain ⟨hfz51_0, hfz51_1, hfz51_2, hfz51_3⟩ := Ext.froz4 BK267.out
               as_aux_lemma =>
                go_wp2
                go_meet
                case rel => exact ⟨_, (true), (by first | rfl | (simp; done) | (simp [*]; done)), (by first | rfl | (simp; done) | (simp [*]; done)), H', ⟨by have := HK1.out; first | omega | exact Nat.le_refl _⟩, ⟨by exact Ext.nR HO_5.out⟩, ⟨by (with_reducible repeat (first | apply Kd.V_alloc | apply Kd.V_drewN | apply Kd.V_drew)); exact Kd.V_mono HO_24.out (fun _ hk => ⟨hk.1.1, ⟨hk.1.2.1, ⟨hk.1.2.2, hk.2⟩⟩⟩)⟩, ⟨by (with_reducible repeat (first | apply Kd.V_alloc | apply Kd.V_drewN | apply Kd.V_drew)); exact Kd.V_mono HO_263003.out (fun _ hk => ⟨hk.1.1, ⟨hk.1.2.1, ⟨hk.1.2.2, hk.2⟩⟩⟩)⟩, ⟨by (with_reducible repeat (first | apply Kd.V_alloc | apply Kd.V_drewN | apply Kd.V_drew)); exact Kd.V_mono HO_263004.out (fun _ hk => ⟨hk.1.1, ⟨hk.1.2.1, ⟨hk.1.2.2, hk.2⟩⟩⟩)⟩, ⟨by (with_reducible repeat (first | apply Kd.V_alloc | apply Kd.V_drewN | apply Kd.V_drew)); exact Kd.V_mono HO_263005.out (fun _ hk => ⟨hk.1.1, ⟨hk.1.2.1, ⟨hk.1.2.2, hk.2⟩⟩⟩)⟩, ⟨by (with_reducible repeat (first | apply Kd.V_alloc | apply Kd.V_drewN | apply Kd.V_drew)); exact Kd.V_mono HO_263006.out (fun _ hk => ⟨hk.1.1, ⟨hk.1.2.1, ⟨hk.1.2.2, hk.2⟩⟩⟩)⟩, ⟨by (with_reducible repeat (first | apply Kd.V_alloc | apply Kd.V_drewN | apply Kd.V_drew)); exact Kd.V_mono HL266_0.out (fun _ hk => ⟨hk.1.1, ⟨hk.1.2.1, ⟨hk.1.2.2, hk.2⟩⟩⟩)⟩, ⟨by (with_reducible repeat (first | apply Kd.V_alloc | apply Kd.V_drewN | apply Kd.V_drew)); exact Kd.V_mono HL266_1.out (fun _ hk => ⟨hk.1.1, ⟨hk.1.2.1, ⟨hk.1.2.2, hk.2⟩⟩⟩)⟩, ⟨by exact BK262.out⟩, ⟨by exact BK267.out⟩, ⟨by exact Ext.s2 GE262.out GE267.out HB.out⟩⟩
        case rest => as_aux_lemma =>
         clear HC12; (try clear c1 q2 hx2 c3 c4 c5 c9b0 c10b0 c11b0 c14 c18b0 c18b1 c19 c21b0 c22 c24b0 c25 c26 p26 q26 hx26 c27b0 c28b0 c28b1 c29b0 c29b1 c30b0 c31 c33b0 c33b1 c33b2 c35 c37 c39 c41 c43b0 c44 c46b0 c46b1 c46b2 c48 c50 hcz15_0 hcz15_1 hcz15_2 hcz15_3 hcz17_0 hcz17_1 hcz17_2 hcz17_3 hcz20_0 hcz20_1 hcz20_2 hcz20_3 hcz23_0 hcz23_1 hcz23_2 hcz23_3 hcz26_0 hcz26_1 hcz26_2 hcz26_3 hcz32_0 hcz32_1 hcz32_2 hcz32_3 hcz36_0 hcz36_1 hcz36_2 hcz36_3 hcz38_0 hcz38_1 hcz38_2 hcz38_3 hcz40_0 hcz40_1 hcz40_2 hcz40_3 hcz42_0 hcz42_1 hcz42_2 hcz42_3 hcz45_0 hcz45_1 hcz45_2 hcz45_3 hcz49_0 hcz49_1 hcz49_2 hcz49_3 hcz51_0 hcz51_1 hcz51_2 hcz51_3 hfz15_0 hfz15_1 hfz15_2 hfz15_3 hfz17_0 hfz17_1 hfz17_2 hfz17_3 hfz20_0 hfz20_1 hfz20_2 hfz20_3 hfz23_0 hfz23_1 hfz23_2 hfz23_3 hfz26_0 hfz26_1 hfz26_2 hfz26_3 hfz32_0 hfz32_1 hfz32_2 hfz32_3 hfz36_0 hfz36_1 hfz36_2 hfz36_3 hfz38_0 hfz38_1 hfz38_2 hfz38_3 hfz40_0 hfz40_1 hfz40_2 hfz40_3 hfz42_0 hfz42_1 hfz42_2 hfz42_3 hfz45_0 hfz45_1 hfz45_2 hfz45_3 hfz49_0 hfz49_1 hfz49_2 hfz49_3 hfz51_0 hfz51_1 hfz51_2 hfz51_3 hx266_0 hx266_1 hx266_2 hx266_3 p266 q266); obtain ⟨kq, x79_11, rfl, rfl, HA, HJ11, HO_5, HO_24, HO_263003, HO_263004, HO_263005, HO_263006, HO_268000, HO_268001, BK262, BK267, HB⟩ := hcut; cases kq with
         | zero => exact absurd HA.out (by simp [terrierref04_room.j1])
         | succ kj11 =>
          have H := HA.out; clear HA; simp only [terrierref04_room.j1] at H
          by_cases c52 : x79_11 = true
          ·
           subst c52; rw [if_pos rfl] at H; simp only [Option.some.injEq, Prod.mk.injEq] at H; obtain ⟨rfl, rfl, rfl⟩ := H
           as_aux_lemma =>
            go_wp2
            go_ret3
            exact ⟨_, by first | rfl | (simp [errW_none, errW_some] <;> rfl) | (simp [*, errW_none, errW_some] <;> rfl), by first | exact Ext.nl | exact Kd.R_nil _ _ _ _ _, by exact Ext.s2 GE262.out GE267.out HB.out⟩
          ·
           replace c52 := Bool.eq_false_iff.mpr c52; subst c52; rw [if_neg Bool.false_ne_true] at H; have HC53 := Aside0.mk H; clear H
           go_upto_region 12 with (fail)
           go_cut [94] (fun v94 wc => ∃ (kq : Nat) (x94_52 : Bool), v94 = .bool x94_52 ∧ Aside0 (terrierref04_room.j2 kq x5_1 (l0_3.length : Int) (decide (((rd_T61 l0_3 x26_1).f2) ≤ 64)) l0_3 (l0_3.length : Int) x26_1 x94_52 a0_0 a0_1 a0_2 l0_3 l0_4 l0_5 l0_6 ((rd_T61 l0_3 x26_1).f0) ((rd_T61 l0_3 x26_1).f1) ((rd_T61 l0_3 x26_1).f2) ((rd_T61 l0_3 x26_1).f3) = some (r1, r2, r3)) ∧ Aside0 (kq ≤ kj11) ∧ Aside0 (Kd.R (Kd.int .u8) 5 wc w.heap.size (ok27_0 w) u5 x5_1) ∧ Aside0 (Kd.V k61 61 wc w.heap.size (fun k_ => ((P0_3_ k_ ∨ P0_4_ k_ ∨ P0_5_ k_ ∨ P0_6_ k_) ∨ w.heap.size ≤ k_) ∧ some k_ ≠ (u5 : Value).ownBlock ∧ k_ ≠ gb262 ∧ k_ ≠ gb267) (.slice (some ad266) l0_3.length c0_3) l0_3) ∧ Aside0 (Kd.V k61 61 wc w.heap.size (fun k_ => ((P0_3_ k_ ∨ P0_4_ k_ ∨ P0_5_ k_ ∨ P0_6_ k_) ∨ w.heap.size ≤ k_) ∧ some k_ ≠ (u5 : Value).ownBlock ∧ k_ ≠ gb262 ∧ k_ ≠ gb267) (.slice (some ad266) l0_3.length c0_3) l0_3) ∧ Aside0 (Kd.V k62 62 wc w.heap.size (fun k_ => ((P0_3_ k_ ∨ P0_4_ k_ ∨ P0_5_ k_ ∨ P0_6_ k_) ∨ w.heap.size ≤ k_) ∧ some k_ ≠ (u5 : Value).ownBlock ∧ k_ ≠ gb262 ∧ k_ ≠ gb267) (.slice A0_4 l0_4.length c0_4) l0_4) ∧ Aside0 (Kd.V (Kd.int .u8) 5 wc w.heap.size (fun k_ => ((P0_3_ k_ ∨ P0_4_ k_ ∨ P0_5_ k_ ∨ P0_6_ k_) ∨ w.heap.size ≤ k_) ∧ some k_ ≠ (u5 : Value).ownBlock ∧ k_ ≠ gb262 ∧ k_ ≠ gb267) (.slice A0_5 l0_5.length c0_5) l0_5) ∧ Aside0 (Kd.V (Kd.int .i64) 3 wc w.heap.size (fun k_ => ((P0_3_ k_ ∨ P0_4_ k_ ∨ P0_5_ k_ ∨ P0_6_ k_) ∨ w.heap.size ≤ k_) ∧ some k_ ≠ (u5 : Value).ownBlock ∧ k_ ≠ gb262 ∧ k_ ≠ gb267) (.slice A0_6 l0_6.length c0_6) l0_6) ∧ Aside0 (Kd.V (Kd.int .u8) 5 wc w.heap.size (fun k_ => ((P0_3_ k_ ∨ P0_4_ k_ ∨ P0_5_ k_ ∨ P0_6_ k_) ∨ w.heap.size ≤ k_) ∧ some k_ ≠ (u5 : Value).ownBlock ∧ k_ ≠ gb262 ∧ k_ ≠ gb267) (.slice A266_0 ((rd_T61 l0_3 x26_1).f0).length c266_0) ((rd_T61 l0_3 x26_1).f0)) ∧ Aside0 (Kd.V (Kd.int .u8) 5 wc w.heap.size (fun k_ => ((P0_3_ k_ ∨ P0_4_ k_ ∨ P0_5_ k_ ∨ P0_6_ k_) ∨ w.heap.size ≤ k_) ∧ some k_ ≠ (u5 : Value).ownBlock ∧ k_ ≠ gb262 ∧ k_ ≠ gb267) (.slice A266_1 ((rd_T61 l0_3 x26_1).f1).length c266_1) ((rd_T61 l0_3 x26_1).f1)) ∧ Aside0 (wc.heap[gb262]? = some (.cells #[.int .i64 a0_0, .int .u64 a0_1, .int .i64 a0_2, (.slice (some ad266) l0_3.length c0_3), (.slice A0_4 l0_4.length c0_4), (.slice A0_5 l0_5.length c0_5), (.slice A0_6 l0_6.length c0_6)] 34 (0, 0))) ∧ Aside0 (wc.heap[gb267]? = some (.cells #[(.slice A266_0 ((rd_T61 l0_3 x26_1).f0).length c266_0), (.slice A266_1 ((rd_T61 l0_3 x26_1).f1).length c266_1), .int .i64 ((rd_T61 l0_3 x26_1).f2), .int .i64 ((rd_T61 l0_3 x26_1).f3)] 61 (0, 0))) ∧ Aside0 (Below w.heap.size w wc))
           case first => as_aux_lemma =>
            have H := HC53.out; clear HC53
            by_cases c54 : x26_1 > 0
            ·
             rw [if_pos c54] at H; have c54b0 := decide_eq_true c54; clear c54
             (first | rw [c54b0] | (simp only [i64_w, i32_w]; rw [c54b0]) | skip)
             obtain ⟨ji55, hji55⟩ : ∃ j_ : Int, (wrap64 (x26_1 - 1)) = j_ := ⟨_, rfl⟩
             replace H : (if 0 ≤ (ji55) then (if (ji55) < (l0_3.length : Int) then ((terrierref01_Ahead.f kj11 ((rd_T61 l0_3 (ji55)).f0) ((rd_T61 l0_3 x26_1).f0)).bind fun t271 => (terrierref04_room.j2 kj11 x5_1 (l0_3.length : Int) (decide (((rd_T61 l0_3 x26_1).f2) ≤ 64)) l0_3 (l0_3.length : Int) x26_1 (!t271) a0_0 a0_1 a0_2 l0_3 l0_4 l0_5 l0_6 ((rd_T61 l0_3 x26_1).f0) ((rd_T61 l0_3 x26_1).f1) ((rd_T61 l0_3 x26_1).f2) ((rd_T61 l0_3 x26_1).f3))) else (none)) else (none)) = some (r1, r2, r3) := by first | (rw [hji55] at H; exact H) | (simp only [hji55] at H ⊢; exact H)
             have hji55w : (IntKind.i64.wrap (x26_1 - 1)) = ji55 := (i64_w _).trans hji55
             by_cases c56 : 0 ≤ (ji55)
             ·
              rw [if_pos c56] at H; have c56b0 := decide_eq_true c56; clear c56
              by_cases c57 : (ji55) < (l0_3.length : Int)
              ·
               rw [if_pos c57] at H; have c57b0 := decide_eq_true c57; clear c57; replace H := Option.bind_eq_some_iff.mp H; obtain ⟨t271, A580, H⟩ := H; (try dsimp only at H); have A58 := Aside0.mk A580; clear A580; have H' := Aside0.mk H; clear H
               try go_wp2
               replace HO_5 := Ext.a (Kd.R_drew HO_5.out); replace HO_24 := Ext.a (Kd.V_drew HO_24.out); replace HO_263003 := Ext.a (Kd.V_drew HO_263003.out); replace HO_263004 := Ext.a (Kd.V_drew HO_263004.out); replace HO_263005 := Ext.a (Kd.V_drew HO_263005.out); replace HO_263006 := Ext.a (Kd.V_drew HO_263006.out); replace HO_268000 := Ext.a (Kd.V_drew HO_268000.out); replace HO_268001 := Ext.a (Kd.V_drew HO_268001.out); replace BK262 := Ext.a (blk_drew BK262.out); replace BK267 := Ext.a (blk_drew BK267.out); replace HB := Ext.a (below_drew1 HB.out); have p270 : 0 ≤ ((ji55) : Int) := of_decide_eq_true (by first | (with_reducible assumption) | assumption); have q270 : (ji55) < (l0_3.length : Int) := of_decide_eq_true (by first | (with_reducible assumption) | assumption); obtain ⟨ad270, A270_0, c270_0, A270_1, c270_1, e270, hx270_0, hx270_1, hx270_2, hx270_3, hl270_0, hi270_0, hl270_1, hi270_1⟩ := at_T61 (Kd.V_reads' HO_263003.out).2.2 (ji55) p270 q270; obtain rfl : ad266 = ad270 := (by injection e270); obtain ⟨ce270, hce270, hMe270, hcc270⟩ := Kd.V_get HO_263003.out z61 (ji55) p270 (by first | exact q270 | exact of_decide_eq_true (by first | (with_reducible assumption) | assumption) | (have e_ := (Kd.V_reads' HO_263003.out).1; omega)); obtain ⟨ua270_0, uc270_0, ua270_1, uc270_1, rfl, ul270_0, ge270_0, ul270_1, ge270_1⟩ := k61_openF hMe270; have hv270_0 := hcc270 0 _ rfl; rw [Nat.add_zero] at hv270_0; replace hv270_0 := Option.some.inj (hv270_0.symm.trans hx270_0)
               injection hv270_0 with hva_ hvn_ hvc_
               rw [hva_] at ge270_0; rw [hvc_] at ul270_0; have HL270_0 := Ext.a (show Kd.V (Kd.int .u8) 5 _ w.heap.size _ _ ((rd_T61 l0_3 (ji55)).f0) from Kd.V_mk ul270_0 ge270_0); clear hva_ hvn_ hvc_ ge270_0 ul270_0; have hv270_1 := hcc270 1 _ rfl; rw [add_field _ _ 1 (by omega)] at hv270_1; replace hv270_1 := Option.some.inj (hv270_1.symm.trans hx270_1)
               injection hv270_1 with hva_ hvn_ hvc_
               rw [hva_] at ge270_1; rw [hvc_] at ul270_1; have HL270_1 := Ext.a (show Kd.V (Kd.int .u8) 5 _ w.heap.size _ _ ((rd_T61 l0_3 (ji55)).f1) from Kd.V_mk ul270_1 ge270_1); clear hva_ hvn_ hvc_ ge270_1 ul270_1; clear hcc270 hce270; have HR270_0 := Aside0.mk hi270_0; have HC270_0 := Aside0.mk hl270_0; clear hi270_0 hl270_0; have HR270_1 := Aside0.mk hi270_1; have HC270_1 := Aside0.mk hl270_1; clear hi270_1 hl270_1; replace p270 := eq_true p270; replace q270 := eq_true q270; refine start_ (n := 15) (S := fun w' => w'.cell? ⟨gb262, 0, none⟩ = some (.int .i64 a0_0) ∧ w'.cell? ⟨gb262, 1, none⟩ = some (.int .u64 a0_1) ∧ w'.cell? ⟨gb262, 2, none⟩ = some (.int .i64 a0_2) ∧ w'.cell? ⟨gb262, 3, none⟩ = some (.slice (some ad266) l0_3.length c0_3) ∧ w'.cell? ⟨gb262, 4, none⟩ = some (.slice A0_4 l0_4.length c0_4) ∧ w'.cell? ⟨gb262, 5, none⟩ = some (.slice A0_5 l0_5.length c0_5) ∧ w'.cell? ⟨gb262, 6, none⟩ = some (.slice A0_6 l0_6.length c0_6) ∧ w'.cell? ⟨gb267, 0, none⟩ = some (.slice A266_0 ((rd_T61 l0_3 x26_1).f0).length c266_0) ∧ w'.cell? ⟨gb267, 1, none⟩ = some (.slice A266_1 ((rd_T61 l0_3 x26_1).f1).length c266_1) ∧ w'.cell? ⟨gb267, 2, none⟩ = some (.int .i64 ((rd_T61 l0_3 x26_1).f2)) ∧ w'.cell? ⟨gb267, 3, none⟩ = some (.int .i64 ((rd_T61 l0_3 x26_1).f3)) ∧ w'.cell? (ad266.add (((ji55)).toNat * 4)) = some (.slice A270_0 ((rd_T61 l0_3 (ji55)).f0).length c270_0) ∧ w'.cell? ⟨(ad266.add (((ji55)).toNat * 4)).block, (ad266.add (((ji55)).toNat * 4)).off + 1, none⟩ = some (.slice A270_1 ((rd_T61 l0_3 (ji55)).f1).length c270_1) ∧ w'.cell? ⟨(ad266.add (((ji55)).toNat * 4)).block, (ad266.add (((ji55)).toNat * 4)).off + 2, none⟩ = some (.int .i64 ((rd_T61 l0_3 (ji55)).f2)) ∧ w'.cell? ⟨(ad266.add (((ji55)).toNat * 4)).block, (ad266.add (((ji55)).toNat * 4)).off + 3, none⟩ = some (.int .i64 ((rd_T61 l0_3 (ji55)).f3))) (ds := []) zb27_28 (by kernel_rfl) rfl rfl ⟨(blk_cell BK262.out 0).trans rfl, (blk_cell BK262.out 1).trans rfl, (blk_cell BK262.out 2).trans rfl, (blk_cell BK262.out 3).trans rfl, (blk_cell BK262.out 4).trans rfl, (blk_cell BK262.out 5).trans rfl, (blk_cell BK262.out 6).trans rfl, (blk_cell BK267.out 0).trans rfl, (blk_cell BK267.out 1).trans rfl, (blk_cell BK267.out 2).trans rfl, (blk_cell BK267.out 3).trans rfl, hx270_0, hx270_1, hx270_2, hx270_3⟩ (fun hHeld => ?_); refine with_tabW terrierref04_room.tab12 terrierref04_room.bits12 (fun HT_ HW_ => ?_)
               generalize wc.drew = w59 at HO_5 HO_24 HO_263003 HO_263004 HO_263005 HO_263006 HO_268000 HO_268001 BK262 BK267 HB HL270_0 HL270_1 HR270_0 HR270_1 hx270_0 hx270_1 hx270_2 hx270_3 hHeld ⊢; refine pure_ (i := 0) (N := some 80) (v := ?_) (a' := ?_) zb27_29 rfl rfl (any_of HT_.out (by kernel_rfl)) (fun _ _ _ h => h) (Or.inl ⟨by rfl, ?_⟩) ?_ ?_; rotate_left
               · intro w'; go_simp; with_reducible rfl
               rotate_left
               · simp only [Act.put, Ext.sb, Ext.sz, Ext.ss, i64_w, i32_w]; rfl
               refine pure_ (i := 1) (N := some 81) (v := ?_) (a' := ?_) zb27_30 rfl rfl (any_of HT_.out (by kernel_rfl)) (fun _ _ _ h => h) (Or.inl ⟨by rfl, ?_⟩) ?_ ?_; rotate_left
               · intro w'; go_simp; with_reducible rfl
               rotate_left
               · simp only [Act.put, Ext.sb, Ext.sz, Ext.ss, i64_w, i32_w]; rfl
               refine pure_ (i := 2) (N := some 82) (v := ?_) (a' := ?_) zb27_31 rfl rfl (any_of HT_.out (by kernel_rfl)) (fun _ _ _ h => h) (Or.inl ⟨by rfl, ?_⟩) ?_ ?_; rotate_left
               · intro w'; go_simp; with_reducible rfl
               rotate_left
               · simp only [Act.put, Ext.sb, Ext.sz, Ext.ss, i64_w, i32_w]; rfl
               refine pure_ (i := 3) (N := some 83) (v := ?_) (a' := ?_) zb27_32 rfl rfl (any_of HT_.out (by kernel_rfl)) (fun _ _ _ h => h) (Or.inl ⟨by rfl, ?_⟩) ?_ ?_; rotate_left
               · intro w'; go_simp; with_reducible rfl
               rotate_left
               · simp only [Act.put, Ext.sb, Ext.sz, Ext.ss, i64_w, i32_w]; rfl
               refine pure_ (i := 5) (N := some 85) (v := ?_) (a' := ?_) #[true, true, true, true, false, true, false, false, false, false, false, false, false, false, false] rfl rfl (any_of HT_.out (by kernel_rfl)) (fun _ _ _ h => h) (Or.inl ⟨by rfl, ?_⟩) ?_ ?_; rotate_left
               · intro w'; go_simp; with_reducible rfl
               rotate_left
               · simp only [Act.put, Ext.sb, Ext.sz, Ext.ss, i64_w, i32_w]; rfl
               refine pure_ (i := 6) (N := some 86) (v := ?_) (a' := ?_) #[true, true, true, true, false, true, true, false, false, false, false, false, false, false, false] rfl rfl (any_of HT_.out (by kernel_rfl)) (fun _ _ _ h => h) (Or.inl ⟨by rfl, ?_⟩) ?_ ?_; rotate_left
               · intro w'; go_simp; with_reducible rfl
               rotate_left
               · simp only [Act.put, Ext.sb, Ext.sz, Ext.ss, i64_w, i32_w]; rfl
               refine pure_ (i := 10) (N := some 90) (v := ?_) (a' := ?_) #[true, true, true, true, false, true, true, false, false, false, true, false, false, false, false] rfl rfl (any_of HT_.out (by kernel_rfl)) (fun _ _ _ h => h) (Or.inl ⟨by rfl, ?_⟩) ?_ ?_; rotate_left
               · intro w'; go_simp; with_reducible rfl
               rotate_left
               · simp only [Act.put, Ext.sb, Ext.sz, Ext.ss, i64_w, i32_w]; rfl
               refine take_ (i := 4) (N := some 84) (v := ?_) (a' := ?_) #[true, true, true, true, true, true, true, false, false, false, true, false, false, false, false] rfl rfl (take_ofW HT_.out HW_.out (by kernel_rfl)) (fun _ _ _ h => h) (Or.inl ⟨by rfl, ?_⟩) hHeld ?_ ?_; rotate_left
               · rintro w' ⟨s0, s1, s2, s3, s4, s5, s6, s7, s8, s9, s10, s11, s12, s13, s14⟩; go_simp; with_reducible rfl
               rotate_left
               · simp only [Act.put, Ext.sb, Ext.sz, Ext.ss, i64_w, i32_w]; rfl
               refine pure_ (i := 7) (N := some 87) (v := ?_) (a' := ?_) #[true, true, true, true, true, true, true, true, false, false, true, false, false, false, false] rfl rfl (any_of HT_.out (by kernel_rfl)) (fun _ _ _ h => h) (Or.inl ⟨by rfl, ?_⟩) ?_ ?_; rotate_left
               · intro w'; go_simp; with_reducible rfl
               rotate_left
               · simp only [Act.put, Ext.sb, Ext.sz, Ext.ss, i64_w, i32_w]; rfl
               refine pure_ (i := 8) (N := some 88) (v := ?_) (a' := ?_) #[true, true, true, true, true, true, true, true, true, false, true, false, false, false, false] rfl rfl (any_of HT_.out (by kernel_rfl)) (fun _ _ _ h => h) (Or.inl ⟨by rfl, ?_⟩) ?_ ?_; rotate_left
               · intro w'; go_simp; with_reducible rfl
               rotate_left
               · simp only [Act.put, Ext.sb, Ext.sz, Ext.ss, i64_w, i32_w]; rfl
               refine take_ (i := 9) (N := some 89) (v := ?_) (a' := ?_) zb27_33 rfl rfl (take_ofW HT_.out HW_.out (by kernel_rfl)) (fun _ _ _ h => h) (Or.inl ⟨by rfl, ?_⟩) hHeld ?_ ?_; rotate_left
               · rintro w' ⟨s0, s1, s2, s3, s4, s5, s6, s7, s8, s9, s10, s11, s12, s13, s14⟩; go_simp; with_reducible rfl
               rotate_left
               · simp only [Act.put, Ext.sb, Ext.sz, Ext.ss, i64_w, i32_w]; rfl
               refine take_ (i := 11) (N := some 91) (v := ?_) (a' := ?_) zb27_34 rfl rfl (take_ofW HT_.out HW_.out (by kernel_rfl)) (fun _ _ _ h => h) (Or.inl ⟨by rfl, ?_⟩) hHeld ?_ ?_; rotate_left
               · rintro w' ⟨s0, s1, s2, s3, s4, s5, s6, s7, s8, s9, s10, s11, s12, s13, s14⟩; go_simp; with_reducible rfl
               rotate_left
               · simp only [Act.put, Ext.sb, Ext.sz, Ext.ss, i64_w, i32_w]; rfl
               refine one_ (i := 12) (N := some 92) zb27_35 rfl rfl (one_of HT_.out (by kernel_rfl)) (by decide) (fun K hK => ?_); refine goes_ Try.func45 (by kernel_rfl) rfl #[.slice A270_0 ((rd_T61 l0_3 (ji55)).f0).length c270_0, .slice A266_0 ((rd_T61 l0_3 x26_1).f0).length c266_0] (by rfl) rfl rfl (by (try simp only [List.map_toArray, List.map_cons, List.map_nil]); first | done | (simp only [hji55]; rfl) | rfl | (simp only [List.length_drop, List.length_take]; rfl)) ?_
               with_reducible refine (terrierref01_Ahead.calls kj11 _ _ ((rd_T61 l0_3 (ji55)).f0) _ _ ((rd_T61 l0_3 x26_1).f0) t271 _ ?side1 ?side2 ?side3 ?side4 A58.out).mono ?_
               (case side1 => repeat (first | exact (by exact Ext.nC HR270_0.out) | (with_reducible refine Kd.C_alloc ?_ _) | (with_reducible refine Kd.C_drewN ?_ _) | (with_reducible refine Kd.C_drew ?_)))
               (case side2 => exact HC270_0.out)
               (case side3 => exact Ext.nC (Kd.V_reads' HO_268000.out).2.2)
               (case side4 => exact (Kd.V_reads' HO_268000.out).2.1)
               rintro e w' ⟨rfl, ⟨nd, rfl⟩⟩; refine ⟨_, rfl, ?_⟩; refine hK.out _ _ ⟨(blk_cell BK262.out 0).trans rfl, (blk_cell BK262.out 1).trans rfl, (blk_cell BK262.out 2).trans rfl, (blk_cell BK262.out 3).trans rfl, (blk_cell BK262.out 4).trans rfl, (blk_cell BK262.out 5).trans rfl, (blk_cell BK262.out 6).trans rfl, (blk_cell BK267.out 0).trans rfl, (blk_cell BK267.out 1).trans rfl, (blk_cell BK267.out 2).trans rfl, (blk_cell BK267.out 3).trans rfl, hHeld.2.2.2.2.2.2.2.2.2.2.2.1, hHeld.2.2.2.2.2.2.2.2.2.2.2.2.1, hHeld.2.2.2.2.2.2.2.2.2.2.2.2.2.1, hHeld.2.2.2.2.2.2.2.2.2.2.2.2.2.2⟩ (fun hHeld => ?_); clear hK K; refine norm_ (a' := ?_) ?_ ?_; rotate_left
               · show Act.put _ (some 92) _ = _; simp only [Act.put, Ext.sb, Ext.sz, Ext.ss, i64_w, i32_w]; rfl
               refine pure_ (i := 13) (N := some 93) (v := ?_) (a' := ?_) zb27_36 rfl rfl (any_of HT_.out (by kernel_rfl)) (fun _ _ _ h => h) (Or.inl ⟨by rfl, ?_⟩) ?_ ?_; rotate_left
               · intro w'; go_simp; with_reducible rfl
               rotate_left
               · simp only [Act.put, Ext.sb, Ext.sz, Ext.ss, i64_w, i32_w]; rfl
               refine pure_ (i := 14) (N := some 94) (v := ?_) (a' := ?_) zb27_37 rfl rfl (any_of HT_.out (by kernel_rfl)) (fun _ _ _ h => h) (Or.inl ⟨by rfl, ?_⟩) ?_ ?_; rotate_left
               · intro w'; go_simp; with_reducible rfl
               rotate_left
               · simp only [Act.put, Ext.sb, Ext.sz, Ext.ss, i64_w, i32_w]; rfl
               refine done_ (done_of HT_.out (by kernel_rfl)) ?_
               try go_wp2
               go_meet
               case rel => exact ⟨_, (!t271), (by first | rfl | (simp; done) | (simp [*]; done)), H', ⟨by have := HK1.out; have := HJ11.out; first | omega | exact Nat.le_refl _⟩, ⟨by exact Ext.nR HO_5.out⟩, ⟨by (with_reducible repeat (first | apply Kd.V_alloc | apply Kd.V_drewN | apply Kd.V_drew)); exact HO_24.out⟩, ⟨by (with_reducible repeat (first | apply Kd.V_alloc | apply Kd.V_drewN | apply Kd.V_drew)); exact HO_263003.out⟩, ⟨by (with_reducible repeat (first | apply Kd.V_alloc | apply Kd.V_drewN | apply Kd.V_drew)); exact HO_263004.out⟩, ⟨by (with_reducible repeat (first | apply Kd.V_alloc | apply Kd.V_drewN | apply Kd.V_drew)); exact HO_263005.out⟩, ⟨by (with_reducible repeat (first | apply Kd.V_alloc | apply Kd.V_drewN | apply Kd.V_drew)); exact HO_263006.out⟩, ⟨by (with_reducible repeat (first | apply Kd.V_alloc | apply Kd.V_drewN | apply Kd.V_drew)); exact HO_268000.out⟩, ⟨by (with_reducible repeat (first | apply Kd.V_alloc | apply Kd.V_drewN | apply Kd.V_drew)); exact HO_268001.out⟩, ⟨by (with_reducible repeat (first | refine blk_drewN ?_ _ | refine blk_drew ?_ | refine blk_alloc ?_ _)); exact BK262.out⟩, ⟨by (with_reducible repeat (first | refine blk_drewN ?_ _ | refine blk_drew ?_ | refine blk_alloc ?_ _)); exact BK267.out⟩, ⟨by exact Ext.s2 GE262.out GE267.out HB.out⟩⟩
              · rw [if_neg c57] at H; exact absurd H (by simp)
             · rw [if_neg c56] at H; exact absurd H (by simp)
            ·
             rw [if_neg c54] at H; have c54b0 := decide_eq_false c54; clear c54
             (first | rw [c54b0] | (simp only [i64_w, i32_w]; rw [c54b0]) | skip)
             have H' := Aside0.mk H; clear H
             try go_wp2
             replace HO_5 := Ext.a (Kd.R_drew HO_5.out); replace HO_24 := Ext.a (Kd.V_drew HO_24.out); replace HO_263003 := Ext.a (Kd.V_drew HO_263003.out); replace HO_263004 := Ext.a (Kd.V_drew HO_263004.out); replace HO_263005 := Ext.a (Kd.V_drew HO_263005.out); replace HO_263006 := Ext.a (Kd.V_drew HO_263006.out); replace HO_268000 := Ext.a (Kd.V_drew HO_268000.out); replace HO_268001 := Ext.a (Kd.V_drew HO_268001.out); replace BK262 := Ext.a (blk_drew BK262.out); replace BK267 := Ext.a (blk_drew BK267.out); replace HB := Ext.a (below_drew1 HB.out); refine start_ (n := 15) (S := fun w' => True) (ds := []) zb27_28 (by kernel_rfl) rfl rfl trivial (fun hHeld => ?_); refine with_tabW terrierref04_room.tab12 terrierref04_room.bits12 (fun HT_ HW_ => ?_); generalize wc.drew = w60 at HO_5 HO_24 HO_263003 HO_263004 HO_263005 HO_263006 HO_268000 HO_268001 BK262 BK267 HB hHeld ⊢; refine pure_ (i := 0) (N := some 80) (v := ?_) (a' := ?_) zb27_29 rfl rfl (any_of HT_.out (by kernel_rfl)) (fun _ _ _ h => h) (Or.inl ⟨by rfl, ?_⟩) ?_ ?_; rotate_left
             · intro w'; go_simp; with_reducible rfl
             rotate_left
             · simp only [Act.put, Ext.sb, Ext.sz, Ext.ss, i64_w, i32_w]; rfl
             refine pure_ (i := 1) (N := some 81) (v := ?_) (a' := ?_) zb27_30 rfl rfl (any_of HT_.out (by kernel_rfl)) (fun _ _ _ h => h) (Or.inl ⟨by rfl, ?_⟩) ?_ ?_; rotate_left
             · intro w'; go_simp; with_reducible rfl
             rotate_left
             · simp only [Act.put, Ext.sb, Ext.sz, Ext.ss, i64_w, i32_w]; rfl
             refine pure_ (i := 2) (N := some 82) (v := ?_) (a' := ?_) zb27_31 rfl rfl (any_of HT_.out (by kernel_rfl)) (fun _ _ _ h => h) (Or.inl ⟨by rfl, ?_⟩) ?_ ?_; rotate_left
             · intro w'; go_simp; with_reducible rfl
             rotate_left
             · simp only [Act.put, Ext.sb, Ext.sz, Ext.ss, i64_w, i32_w]; rfl
             refine pure_ (i := 3) (N := some 83) (v := undef) (a' := ?_) zb27_32 rfl rfl (any_of HT_.out (by kernel_rfl)) (fun _ _ _ h => h) (Or.inr ⟨by rfl, rfl⟩) ?_ ?_; rotate_left
             · simp only [Act.put, Ext.sb, Ext.sz, Ext.ss, i64_w, i32_w]; rfl
             refine pure_ (i := 4) (N := some 84) (v := undef) (a' := ?_) #[true, true, true, true, true, false, false, false, false, false, false, false, false, false, false] rfl rfl (any_of HT_.out (by kernel_rfl)) (fun _ _ _ h => h) (Or.inr ⟨by rfl, rfl⟩) ?_ ?_; rotate_left
             · simp only [Act.put, Ext.sb, Ext.sz, Ext.ss, i64_w, i32_w]; rfl
             refine pure_ (i := 5) (N := some 85) (v := undef) (a' := ?_) #[true, true, true, true, true, true, false, false, false, false, false, false, false, false, false] rfl rfl (any_of HT_.out (by kernel_rfl)) (fun _ _ _ h => h) (Or.inr ⟨by rfl, rfl⟩) ?_ ?_; rotate_left
             · simp only [Act.put, Ext.sb, Ext.sz, Ext.ss, i64_w, i32_w]; rfl
             refine pure_ (i := 6) (N := some 86) (v := undef) (a' := ?_) #[true, true, true, true, true, true, true, false, false, false, false, false, false, false, false] rfl rfl (any_of HT_.out (by kernel_rfl)) (fun _ _ _ h => h) (Or.inr ⟨by rfl, rfl⟩) ?_ ?_; rotate_left
             · simp only [Act.put, Ext.sb, Ext.sz, Ext.ss, i64_w, i32_w]; rfl
             refine pure_ (i := 7) (N := some 87) (v := undef) (a' := ?_) #[true, true, true, true, true, true, true, true, false, false, false, false, false, false, false] rfl rfl (any_of HT_.out (by kernel_rfl)) (fun _ _ _ h => h) (Or.inr ⟨by rfl, rfl⟩) ?_ ?_; rotate_left
             · simp only [Act.put, Ext.sb, Ext.sz, Ext.ss, i64_w, i32_w]; rfl
             refine pure_ (i := 8) (N := some 88) (v := undef) (a' := ?_) #[true, true, true, true, true, true, true, true, true, false, false, false, false, false, false] rfl rfl (any_of HT_.out (by kernel_rfl)) (fun _ _ _ h => h) (Or.inr ⟨by rfl, rfl⟩) ?_ ?_; rotate_left
             · simp only [Act.put, Ext.sb, Ext.sz, Ext.ss, i64_w, i32_w]; rfl
             refine pure_ (i := 9) (N := some 89) (v := undef) (a' := ?_) #[true, true, true, true, true, true, true, true, true, true, false, false, false, false, false] rfl rfl (any_of HT_.out (by kernel_rfl)) (fun _ _ _ h => h) (Or.inr ⟨by rfl, rfl⟩) ?_ ?_; rotate_left
             · simp only [Act.put, Ext.sb, Ext.sz, Ext.ss, i64_w, i32_w]; rfl
             refine pure_ (i := 10) (N := some 90) (v := undef) (a' := ?_) zb27_33 rfl rfl (any_of HT_.out (by kernel_rfl)) (fun _ _ _ h => h) (Or.inr ⟨by rfl, rfl⟩) ?_ ?_; rotate_left
             · simp only [Act.put, Ext.sb, Ext.sz, Ext.ss, i64_w, i32_w]; rfl
             refine pure_ (i := 11) (N := some 91) (v := undef) (a' := ?_) zb27_34 rfl rfl (any_of HT_.out (by kernel_rfl)) (fun _ _ _ h => h) (Or.inr ⟨by rfl, rfl⟩) ?_ ?_; rotate_left
             · simp only [Act.put, Ext.sb, Ext.sz, Ext.ss, i64_w, i32_w]; rfl
             refine pure_ (i := 12) (N := some 92) (v := undef) (a' := ?_) zb27_35 rfl rfl (any_of HT_.out (by kernel_rfl)) (fun _ _ _ h => h) (Or.inr ⟨by rfl, rfl⟩) ?_ ?_; rotate_left
             · simp only [Act.put, Ext.sb, Ext.sz, Ext.ss, i64_w, i32_w]; rfl
             refine pure_ (i := 13) (N := some 93) (v := undef) (a' := ?_) zb27_36 rfl rfl (any_of HT_.out (by kernel_rfl)) (fun _ _ _ h => h) (Or.inr ⟨by rfl, rfl⟩) ?_ ?_; rotate_left
             · simp only [Act.put, Ext.sb, Ext.sz, Ext.ss, i64_w, i32_w]; rfl
             refine pure_ (i := 14) (N := some 94) (v := ?_) (a' := ?_) zb27_37 rfl rfl (any_of HT_.out (by kernel_rfl)) (fun _ _ _ h => h) (Or.inl ⟨by rfl, ?_⟩) ?_ ?_; rotate_left
             · intro w'; go_simp; with_reducible rfl
             rotate_left
             · simp only [Act.put, Ext.sb, Ext.sz, Ext.ss, i64_w, i32_w]; rfl
             refine done_ (done_of HT_.out (by kernel_rfl)) ?_
             try go_wp2
             go_meet
             case rel => exact ⟨_, (false), (by first | rfl | (simp; done) | (simp [*]; done)), H', ⟨by have := HK1.out; have := HJ11.out; first | omega | exact Nat.le_refl _⟩, ⟨by exact Ext.nR HO_5.out⟩, ⟨by (with_reducible repeat (first | apply Kd.V_alloc | apply Kd.V_drewN | apply Kd.V_drew)); exact HO_24.out⟩, ⟨by (with_reducible repeat (first | apply Kd.V_alloc | apply Kd.V_drewN | apply Kd.V_drew)); exact HO_263003.out⟩, ⟨by (with_reducible repeat (first | apply Kd.V_alloc | apply Kd.V_drewN | apply Kd.V_drew)); exact HO_263004.out⟩, ⟨by (with_reducible repeat (first | apply Kd.V_alloc | apply Kd.V_drewN | apply Kd.V_drew)); exact HO_263005.out⟩, ⟨by (with_reducible repeat (first | apply Kd.V_alloc | apply Kd.V_drewN | apply Kd.V_drew)); exact HO_263006.out⟩, ⟨by (with_reducible repeat (first | apply Kd.V_alloc | apply Kd.V_drewN | apply Kd.V_drew)); exact HO_268000.out⟩, ⟨by (with_reducible repeat (first | apply Kd.V_alloc | apply Kd.V_drewN | apply Kd.V_drew)); exact HO_268001.out⟩, ⟨by exact BK262.out⟩, ⟨by exact BK267.out⟩, ⟨by exact Ext.s2 GE262.out GE267.out HB.out⟩⟩
           case rest => as_aux_lemma =>
            clear HC53; (try clear p6 p27 q27 hx27 c45 c54b0 c56b0 c57b0 hx270_0 hx270_1 hx270_2 hx270_3 p270 q270); obtain ⟨kq, x94_52, rfl, HA, HJ52, HO_5, HO_24, HO_263003, HO_263004, HO_263005, HO_263006, HO_268000, HO_268001, BK262, BK267, HB⟩ := hcut; cases kq with
            | zero => exact absurd HA.out (by simp [terrierref04_room.j2])
            | succ kj52 =>
             have H := HA.out; clear HA; simp only [terrierref04_room.j2] at H
             by_cases c61 : x94_52 = true
             ·
              subst c61; rw [if_pos rfl] at H; simp only [Option.some.injEq, Prod.mk.injEq] at H; obtain ⟨rfl, rfl, rfl⟩ := H
              as_aux_lemma =>
               go_wp2
               go_ret3
               exact ⟨_, by first | rfl | (simp [errW_none, errW_some] <;> rfl) | (simp [*, errW_none, errW_some] <;> rfl), by first | exact Ext.nl | exact Kd.R_nil _ _ _ _ _, by exact Ext.s2 GE262.out GE267.out HB.out⟩
             ·
              replace c61 := Bool.eq_false_iff.mpr c61; subst c61; rw [if_neg Bool.false_ne_true] at H; obtain ⟨y272, hy272⟩ : ∃ y_ : List Int, y_ = (([((((rd_T61 l0_3 x26_1).f0).length : Int)) % 256, (wrap64 (Int.tdiv ((rd_T61 l0_3 x26_1).f2) 256)) % 256, (Int.tmod ((rd_T61 l0_3 x26_1).f2) 256) % 256] : List Int)) := ⟨_, rfl⟩
              replace H : (if x5_1.length + y272.length < 140737488355328 then ((some (x5_1 ++ y272 : List Int)).bind fun y275 => (if y275.length + ((rd_T61 l0_3 x26_1).f0).length < 140737488355328 then ((some (y275 ++ ((rd_T61 l0_3 x26_1).f0) : List Int)).bind fun y278 => (if (decide (((rd_T61 l0_3 x26_1).f2) ≤ 64)) = true then (if y278.length + ((rd_T61 l0_3 x26_1).f1).length < 140737488355328 then (terrierref04_room.l0 kj52 (y278 ++ ((rd_T61 l0_3 x26_1).f1)) (l0_3.length : Int) l0_3 (l0_3.length : Int) (wrap64 (x26_1 + 1)) a0_0 a0_1 a0_2 l0_3 l0_4 l0_5 l0_6) else (none)) else ((terrierref01_Put.f kj52 (IntKind.u64.wrap (((rd_T61 l0_3 x26_1).f3))) 4).bind fun t284 => (if y278.length + t284.length < 140737488355328 then (terrierref04_room.l0 kj52 (y278 ++ t284) (l0_3.length : Int) l0_3 (l0_3.length : Int) (wrap64 (x26_1 + 1)) a0_0 a0_1 a0_2 l0_3 l0_4 l0_5 l0_6) else (none))))) else (none))) else (none)) = some (r1, r2, r3) := by first | (rw [hy272]; with_reducible exact H) | (have H2_ := (Option.bind_some _ _).symm.trans H; rw [hy272]; with_reducible exact H2_) | (have H2_ := (Option.bind_some _ _).symm.trans H; with_reducible exact H2_) | with_reducible exact H | (rw [hy272]; exact H) | exact H
              have Ny272 := Aside0.mk hy272; clear hy272
              by_cases c62 : x5_1.length + y272.length < 140737488355328
              ·
               rw [if_pos c62] at H; have LMc62 := Aside0.mk c62; clear c62; obtain ⟨y275, hy275⟩ : ∃ y_ : List Int, y_ = (x5_1 ++ y272) := ⟨_, rfl⟩
               replace H : (if y275.length + ((rd_T61 l0_3 x26_1).f0).length < 140737488355328 then ((some (y275 ++ ((rd_T61 l0_3 x26_1).f0) : List Int)).bind fun y278 => (if (decide (((rd_T61 l0_3 x26_1).f2) ≤ 64)) = true then (if y278.length + ((rd_T61 l0_3 x26_1).f1).length < 140737488355328 then (terrierref04_room.l0 kj52 (y278 ++ ((rd_T61 l0_3 x26_1).f1)) (l0_3.length : Int) l0_3 (l0_3.length : Int) (wrap64 (x26_1 + 1)) a0_0 a0_1 a0_2 l0_3 l0_4 l0_5 l0_6) else (none)) else ((terrierref01_Put.f kj52 (IntKind.u64.wrap (((rd_T61 l0_3 x26_1).f3))) 4).bind fun t284 => (if y278.length + t284.length < 140737488355328 then (terrierref04_room.l0 kj52 (y278 ++ t284) (l0_3.length : Int) l0_3 (l0_3.length : Int) (wrap64 (x26_1 + 1)) a0_0 a0_1 a0_2 l0_3 l0_4 l0_5 l0_6) else (none))))) else (none)) = some (r1, r2, r3) := by first | (rw [hy275]; with_reducible exact H) | (have H2_ := (Option.bind_some _ _).symm.trans H; rw [hy275]; with_reducible exact H2_) | (have H2_ := (Option.bind_some _ _).symm.trans H; with_reducible exact H2_) | with_reducible exact H | (rw [hy275]; exact H) | exact H
               have Ny275 := Aside0.mk hy275; clear hy275
               by_cases c63 : y275.length + ((rd_T61 l0_3 x26_1).f0).length < 140737488355328
               ·
                rw [if_pos c63] at H; have LMc63 := Aside0.mk c63; clear c63; obtain ⟨y278, hy278⟩ : ∃ y_ : List Int, y_ = (y275 ++ ((rd_T61 l0_3 x26_1).f0)) := ⟨_, rfl⟩
                replace H : (if (decide (((rd_T61 l0_3 x26_1).f2) ≤ 64)) = true then (if y278.length + ((rd_T61 l0_3 x26_1).f1).length < 140737488355328 then (terrierref04_room.l0 kj52 (y278 ++ ((rd_T61 l0_3 x26_1).f1)) (l0_3.length : Int) l0_3 (l0_3.length : Int) (wrap64 (x26_1 + 1)) a0_0 a0_1 a0_2 l0_3 l0_4 l0_5 l0_6) else (none)) else ((terrierref01_Put.f kj52 (IntKind.u64.wrap (((rd_T61 l0_3 x26_1).f3))) 4).bind fun t284 => (if y278.length + t284.length < 140737488355328 then (terrierref04_room.l0 kj52 (y278 ++ t284) (l0_3.length : Int) l0_3 (l0_3.length : Int) (wrap64 (x26_1 + 1)) a0_0 a0_1 a0_2 l0_3 l0_4 l0_5 l0_6) else (none)))) = some (r1, r2, r3) := by first | (rw [hy278]; with_reducible exact H) | (have H2_ := (Option.bind_some _ _).symm.trans H; rw [hy278]; with_reducible exact H2_) | (have H2_ := (Option.bind_some _ _).symm.trans H; with_reducible exact H2_) | with_reducible exact H | (rw [hy278]; exact H) | exact H
                have Ny278 := Aside0.mk hy278; clear hy278
                by_cases c64 : (decide (((rd_T61 l0_3 x26_1).f2) ≤ 64)) = true
                ·
                 rw [if_pos c64] at H; have c64b0 : (decide (((rd_T61 l0_3 x26_1).f2) ≤ 64)) = true := c64; clear c64
                 by_cases c65 : y278.length + ((rd_T61 l0_3 x26_1).f1).length < 140737488355328
                 ·
                  rw [if_pos c65] at H; have LMc65 := Aside0.mk c65; clear c65; obtain ⟨y281, hy281⟩ : ∃ y_ : List Int, y_ = (y278 ++ ((rd_T61 l0_3 x26_1).f1)) := ⟨_, rfl⟩
                  replace H : (terrierref04_room.l0 kj52 y281 (l0_3.length : Int) l0_3 (l0_3.length : Int) (wrap64 (x26_1 + 1)) a0_0 a0_1 a0_2 l0_3 l0_4 l0_5 l0_6) = some (r1, r2, r3) := by first | (rw [hy281]; with_reducible exact H) | (have H2_ := (Option.bind_some _ _).symm.trans H; rw [hy281]; with_reducible exact H2_) | (have H2_ := (Option.bind_some _ _).symm.trans H; with_reducible exact H2_) | with_reducible exact H | (rw [hy281]; exact H) | exact H
                  have Ny281 := Aside0.mk hy281; clear hy281; have H' := Aside0.mk H; clear H; have hnb66 := NB267_262.out; have hnc66 := NB262_267.out; obtain ⟨hcz67_0, hcz67_1, hcz67_2, hcz67_3⟩ := Ext.cells4 BK267.out; obtain ⟨hfz67_0, hfz67_1, hfz67_2, hfz67_3⟩ := Ext.froz4 BK267.out
                  go_wp2_with (first | ((with_reducible refine gate_dst (N := 108) rfl ?_); (try (refine gate_guard (by rfl) ?_; dsimp only)); refine Kd.R_lit (Kd.int .u8) _ 5 ?hg (N := 108) ?hd (xs := ([((((rd_T61 l0_3 x26_1).f0).length : Int)) % 256, (wrap64 (Int.tdiv ((rd_T61 l0_3 x26_1).f2) 256)) % 256, (Int.tmod ((rd_T61 l0_3 x26_1).f2) 256) % 256] : List Int)) (inner := [.int .u8 (((((rd_T61 l0_3 x26_1).f0).length : Int)) % 256), .int .u8 ((wrap64 (Int.tdiv ((rd_T61 l0_3 x26_1).f2) 256)) % 256), .int .u8 ((Int.tmod ((rd_T61 l0_3 x26_1).f2) 256) % 256)]) (ok := fun _ => True) (okp := fun _ => True) ?hr ?hp (fun _ hk => hk) trivial (Below.refl _ _) (Nat.le_refl _) (by simp) ?_; (case hd => rfl); (case hg => rfl); (case hr => first | (go_simp; done) | (go_simp; rfl)); (case hp => exact (Reps.one (show Kd.M (Kd.int .u8) _ _ _ (((((rd_T61 l0_3 x26_1).f0).length : Int)) % 256) [.int .u8 (((((rd_T61 l0_3 x26_1).f0).length : Int)) % 256)] from rfl) (Reps.one (show Kd.M (Kd.int .u8) _ _ _ ((wrap64 (Int.tdiv ((rd_T61 l0_3 x26_1).f2) 256)) % 256) [.int .u8 ((wrap64 (Int.tdiv ((rd_T61 l0_3 x26_1).f2) 256)) % 256)] from rfl) (Reps.one (show Kd.M (Kd.int .u8) _ _ _ ((Int.tmod ((rd_T61 l0_3 x26_1).f2) 256) % 256) [.int .u8 ((Int.tmod ((rd_T61 l0_3 x26_1).f2) 256) % 256)] from rfl) (Reps.none _ _))))); intro v273 w68 ho69 hb hg_ hnew_; clear hg_ hnew_; (first | rw [← Ny272.out] at ho69 | (simp only [Int.reduceToNat] at ho69; rw [← Ny272.out] at ho69)); replace HO_24 := Ext.a (Kd.V_elder' (Ext.nV HO_24.out) (Kd.R_base ho69) hb); replace HO_263003 := Ext.a (Kd.V_elder' (Ext.nV HO_263003.out) (Kd.R_base ho69) hb); replace HO_263004 := Ext.a (Kd.V_elder' (Ext.nV HO_263004.out) (Kd.R_base ho69) hb); replace HO_263005 := Ext.a (Kd.V_elder' (Ext.nV HO_263005.out) (Kd.R_base ho69) hb); replace HO_263006 := Ext.a (Kd.V_elder' (Ext.nV HO_263006.out) (Kd.R_base ho69) hb); replace HO_268000 := Ext.a (Kd.V_elder' (Ext.nV HO_268000.out) (Kd.R_base ho69) hb); replace HO_268001 := Ext.a (Kd.V_elder' (Ext.nV HO_268001.out) (Kd.R_base ho69) hb); have HO274 := Ext.a (Kd.R_lower (Kd.R_new' (Kd.R_newM (M := fun k_ => (w.heap.size ≤ k_)) ho69 (below_size (Ext.s2 GE262.out GE267.out HB.out)) (fun k_ h_ => h_)) (Kd.R_lt (Ext.nR HO_5.out))) (below_size (Ext.s2 GE262.out GE267.out HB.out))); replace HO_5 := Ext.a (Kd.R_elder' (Ext.nR HO_5.out) (Kd.R_base ho69) hb); replace BK262 := Ext.a (blk_below BK262.out hb); replace BK267 := Ext.a (blk_below BK267.out hb); replace HB := Ext.a (below_step (Ext.s2 GE262.out GE267.out HB.out) hb); clear hb ho69; obtain ⟨Ao71, co71, eo71⟩ := Kd.R_slice HO274.out; subst eo71) | ((with_reducible refine gate_builtin (b := .append) (xs := #[.tmp 95, .tmp 108]) rfl ?_); (try (refine gate_guard (by rfl) ?_; dsimp only)); at_builtin; refine Kd.R_append_rows (Kd.int .u8) (w0 := w) w.heap.size rfl (.tmp 95) (.tmp 108) 25 5 (.int .u8 0) 1 rfl Try.underlying25 info5 rfl (by decide) (by omega) u5 x5_1 y272 _ _ _ (ok27_1 w (.slice Ao71 y272.length co71)) (fun _ => False) rfl rfl ?aO ?aR (fun _ _ h => h) (fun _ h => h.elim) ?aF ?aB ?aS ?aL ?_; (case aR => exact Ext.nC (Kd.R_reads' HO274.out).2.2); (case aB => exact (Ext.s2 GE262.out GE267.out HB.out)); (case aF => exact (fun k_ hk => ⟨(Nat.le_trans (below_size (Ext.s2 GE262.out GE267.out HB.out)) hk), Kd.fresh' (Kd.R_lt (Ext.nR HO274.out)) k_ hk⟩)); (case aO => exact (Ext.nR HO_5.out)); (case aS => exact (below_size (Ext.s2 GE262.out GE267.out HB.out))); (case aL => have := LMc62.out; omega); intro v276 w70 ho hb hg hat; rw [← Ny275.out] at ho; replace HO_24 := Ext.a (Kd.V_afterv (ok := (fun k_ => ((P0_3_ k_ ∨ P0_4_ k_ ∨ P0_5_ k_ ∨ P0_6_ k_) ∨ w.heap.size ≤ k_) ∧ some k_ ≠ (.slice Ao71 y272.length co71 : Value).ownBlock ∧ k_ ≠ gb262 ∧ k_ ≠ gb267)) (Ext.nV (Kd.V_mono HO_24.out (fun _ hk => ⟨⟨hk.1.1, ⟨hk.2, ⟨hk.1.2.2.1, hk.1.2.2.2⟩⟩⟩, hk.1.2.1⟩))) hg hat); replace HO_263003 := Ext.a (Kd.V_afterv (ok := (fun k_ => ((P0_3_ k_ ∨ P0_4_ k_ ∨ P0_5_ k_ ∨ P0_6_ k_) ∨ w.heap.size ≤ k_) ∧ some k_ ≠ (.slice Ao71 y272.length co71 : Value).ownBlock ∧ k_ ≠ gb262 ∧ k_ ≠ gb267)) (Ext.nV (Kd.V_mono HO_263003.out (fun _ hk => ⟨⟨hk.1.1, ⟨hk.2, ⟨hk.1.2.2.1, hk.1.2.2.2⟩⟩⟩, hk.1.2.1⟩))) hg hat); replace HO_263004 := Ext.a (Kd.V_afterv (ok := (fun k_ => ((P0_3_ k_ ∨ P0_4_ k_ ∨ P0_5_ k_ ∨ P0_6_ k_) ∨ w.heap.size ≤ k_) ∧ some k_ ≠ (.slice Ao71 y272.length co71 : Value).ownBlock ∧ k_ ≠ gb262 ∧ k_ ≠ gb267)) (Ext.nV (Kd.V_mono HO_263004.out (fun _ hk => ⟨⟨hk.1.1, ⟨hk.2, ⟨hk.1.2.2.1, hk.1.2.2.2⟩⟩⟩, hk.1.2.1⟩))) hg hat); replace HO_263005 := Ext.a (Kd.V_afterv (ok := (fun k_ => ((P0_3_ k_ ∨ P0_4_ k_ ∨ P0_5_ k_ ∨ P0_6_ k_) ∨ w.heap.size ≤ k_) ∧ some k_ ≠ (.slice Ao71 y272.length co71 : Value).ownBlock ∧ k_ ≠ gb262 ∧ k_ ≠ gb267)) (Ext.nV (Kd.V_mono HO_263005.out (fun _ hk => ⟨⟨hk.1.1, ⟨hk.2, ⟨hk.1.2.2.1, hk.1.2.2.2⟩⟩⟩, hk.1.2.1⟩))) hg hat); replace HO_263006 := Ext.a (Kd.V_afterv (ok := (fun k_ => ((P0_3_ k_ ∨ P0_4_ k_ ∨ P0_5_ k_ ∨ P0_6_ k_) ∨ w.heap.size ≤ k_) ∧ some k_ ≠ (.slice Ao71 y272.length co71 : Value).ownBlock ∧ k_ ≠ gb262 ∧ k_ ≠ gb267)) (Ext.nV (Kd.V_mono HO_263006.out (fun _ hk => ⟨⟨hk.1.1, ⟨hk.2, ⟨hk.1.2.2.1, hk.1.2.2.2⟩⟩⟩, hk.1.2.1⟩))) hg hat); replace HO_268000 := Ext.a (Kd.V_afterv (ok := (fun k_ => ((P0_3_ k_ ∨ P0_4_ k_ ∨ P0_5_ k_ ∨ P0_6_ k_) ∨ w.heap.size ≤ k_) ∧ some k_ ≠ (.slice Ao71 y272.length co71 : Value).ownBlock ∧ k_ ≠ gb262 ∧ k_ ≠ gb267)) (Ext.nV (Kd.V_mono HO_268000.out (fun _ hk => ⟨⟨hk.1.1, ⟨hk.2, ⟨hk.1.2.2.1, hk.1.2.2.2⟩⟩⟩, hk.1.2.1⟩))) hg hat); replace HO_268001 := Ext.a (Kd.V_afterv (ok := (fun k_ => ((P0_3_ k_ ∨ P0_4_ k_ ∨ P0_5_ k_ ∨ P0_6_ k_) ∨ w.heap.size ≤ k_) ∧ some k_ ≠ (.slice Ao71 y272.length co71 : Value).ownBlock ∧ k_ ≠ gb262 ∧ k_ ≠ gb267)) (Ext.nV (Kd.V_mono HO_268001.out (fun _ hk => ⟨⟨hk.1.1, ⟨hk.2, ⟨hk.1.2.2.1, hk.1.2.2.2⟩⟩⟩, hk.1.2.1⟩))) hg hat); replace BK262 := Ext.a (blk_grown BK262.out hg (Kd.R_ne HO_5.out BK262.out (by decide))); replace BK267 := Ext.a (blk_grown BK267.out hg (Kd.R_ne HO_5.out BK267.out (by decide))); replace HO274 := Ext.a (Kd.R_after (ok := (ok27_0 w)) (Ext.nR (Kd.R_mono HO274.out (fun _ hk => ⟨hk.1.1, hk.2⟩))) hg hat); replace HB := Ext.a (hb); have HO277 := Ext.a (ho); clear HO_5; clear ho hb hg hat; obtain ⟨hcz72_0, hcz72_1, hcz72_2, hcz72_3⟩ := Ext.cells4 BK267.out; obtain ⟨hfz72_0, hfz72_1, hfz72_2, hfz72_3⟩ := Ext.froz4 BK267.out) | ((with_reducible refine gate_builtin (b := .append) (xs := #[.tmp 110, .tmp 112]) rfl ?_); (try (refine gate_guard (by rfl) ?_; dsimp only)); at_builtin; refine Kd.R_append_rows (Kd.int .u8) (w0 := w) w.heap.size rfl (.tmp 110) (.tmp 112) 25 5 (.int .u8 0) 1 rfl Try.underlying25 info5 rfl (by decide) (by omega) v276 y275 ((rd_T61 l0_3 x26_1).f0) _ _ _ (ok27_1 w (.slice Ao71 y272.length co71)) (fun _ => False) rfl rfl ?aO ?aR (fun _ _ h => h) (fun _ h => h.elim) ?aF ?aB ?aS ?aL ?_; (case aR => exact Ext.nC (Kd.V_reads' HO_268000.out).2.2); (case aB => exact (Ext.s2 GE262.out GE267.out HB.out)); (case aF => exact (fun k_ hk => ⟨(Nat.le_trans (below_size (Ext.s2 GE262.out GE267.out HB.out)) hk), Kd.fresh' (Kd.R_lt (Ext.nR HO274.out)) k_ hk⟩)); (case aO => exact (Ext.nR HO277.out)); (case aS => exact (below_size (Ext.s2 GE262.out GE267.out HB.out))); (case aL => have := LMc63.out; omega); intro v279 w73 ho hb hg hat; rw [← Ny278.out] at ho; replace HO_24 := Ext.a (Kd.V_afterv (ok := (fun k_ => ((P0_3_ k_ ∨ P0_4_ k_ ∨ P0_5_ k_ ∨ P0_6_ k_) ∨ w.heap.size ≤ k_) ∧ some k_ ≠ (.slice Ao71 y272.length co71 : Value).ownBlock ∧ k_ ≠ gb262 ∧ k_ ≠ gb267)) (Ext.nV HO_24.out) hg hat); replace HO_263003 := Ext.a (Kd.V_afterv (ok := (fun k_ => ((P0_3_ k_ ∨ P0_4_ k_ ∨ P0_5_ k_ ∨ P0_6_ k_) ∨ w.heap.size ≤ k_) ∧ some k_ ≠ (.slice Ao71 y272.length co71 : Value).ownBlock ∧ k_ ≠ gb262 ∧ k_ ≠ gb267)) (Ext.nV HO_263003.out) hg hat); replace HO_263004 := Ext.a (Kd.V_afterv (ok := (fun k_ => ((P0_3_ k_ ∨ P0_4_ k_ ∨ P0_5_ k_ ∨ P0_6_ k_) ∨ w.heap.size ≤ k_) ∧ some k_ ≠ (.slice Ao71 y272.length co71 : Value).ownBlock ∧ k_ ≠ gb262 ∧ k_ ≠ gb267)) (Ext.nV HO_263004.out) hg hat); replace HO_263005 := Ext.a (Kd.V_afterv (ok := (fun k_ => ((P0_3_ k_ ∨ P0_4_ k_ ∨ P0_5_ k_ ∨ P0_6_ k_) ∨ w.heap.size ≤ k_) ∧ some k_ ≠ (.slice Ao71 y272.length co71 : Value).ownBlock ∧ k_ ≠ gb262 ∧ k_ ≠ gb267)) (Ext.nV HO_263005.out) hg hat); replace HO_263006 := Ext.a (Kd.V_afterv (ok := (fun k_ => ((P0_3_ k_ ∨ P0_4_ k_ ∨ P0_5_ k_ ∨ P0_6_ k_) ∨ w.heap.size ≤ k_) ∧ some k_ ≠ (.slice Ao71 y272.length co71 : Value).ownBlock ∧ k_ ≠ gb262 ∧ k_ ≠ gb267)) (Ext.nV HO_263006.out) hg hat); replace HO_268000 := Ext.a (Kd.V_afterv (ok := (fun k_ => ((P0_3_ k_ ∨ P0_4_ k_ ∨ P0_5_ k_ ∨ P0_6_ k_) ∨ w.heap.size ≤ k_) ∧ some k_ ≠ (.slice Ao71 y272.length co71 : Value).ownBlock ∧ k_ ≠ gb262 ∧ k_ ≠ gb267)) (Ext.nV HO_268000.out) hg hat); replace HO_268001 := Ext.a (Kd.V_afterv (ok := (fun k_ => ((P0_3_ k_ ∨ P0_4_ k_ ∨ P0_5_ k_ ∨ P0_6_ k_) ∨ w.heap.size ≤ k_) ∧ some k_ ≠ (.slice Ao71 y272.length co71 : Value).ownBlock ∧ k_ ≠ gb262 ∧ k_ ≠ gb267)) (Ext.nV HO_268001.out) hg hat); replace BK262 := Ext.a (blk_grown BK262.out hg (Kd.R_ne HO277.out BK262.out (by decide))); replace BK267 := Ext.a (blk_grown BK267.out hg (Kd.R_ne HO277.out BK267.out (by decide))); replace HO274 := Ext.a (Kd.R_after (ok := (ok27_0 w)) (Ext.nR HO274.out) hg hat); replace HB := Ext.a (hb); have HO280 := Ext.a (ho); clear HO277; clear ho hb hg hat; obtain ⟨hcz74_0, hcz74_1, hcz74_2, hcz74_3⟩ := Ext.cells4 BK267.out; obtain ⟨hfz74_0, hfz74_1, hfz74_2, hfz74_3⟩ := Ext.froz4 BK267.out) | ((with_reducible refine gate_builtin (b := .append) (xs := #[.tmp 115, .tmp 117]) rfl ?_); (try (refine gate_guard (by rfl) ?_; dsimp only)); at_builtin; refine Kd.R_append_rows (Kd.int .u8) (w0 := w) w.heap.size rfl (.tmp 115) (.tmp 117) 25 5 (.int .u8 0) 1 rfl Try.underlying25 info5 rfl (by decide) (by omega) v279 y278 ((rd_T61 l0_3 x26_1).f1) _ _ _ (ok27_1 w (.slice Ao71 y272.length co71)) (fun _ => False) rfl rfl ?aO ?aR (fun _ _ h => h) (fun _ h => h.elim) ?aF ?aB ?aS ?aL ?_; (case aR => exact Ext.nC (Kd.V_reads' HO_268001.out).2.2); (case aB => exact (Ext.s2 GE262.out GE267.out HB.out)); (case aF => exact (fun k_ hk => ⟨(Nat.le_trans (below_size (Ext.s2 GE262.out GE267.out HB.out)) hk), Kd.fresh' (Kd.R_lt (Ext.nR HO274.out)) k_ hk⟩)); (case aO => exact (Ext.nR HO280.out)); (case aS => exact (below_size (Ext.s2 GE262.out GE267.out HB.out))); (case aL => have := LMc65.out; omega); intro v282 w75 ho hb hg hat; rw [← Ny281.out] at ho; replace HO_24 := Ext.a (Kd.V_afterv (ok := (fun k_ => ((P0_3_ k_ ∨ P0_4_ k_ ∨ P0_5_ k_ ∨ P0_6_ k_) ∨ w.heap.size ≤ k_) ∧ some k_ ≠ (.slice Ao71 y272.length co71 : Value).ownBlock ∧ k_ ≠ gb262 ∧ k_ ≠ gb267)) (Ext.nV HO_24.out) hg hat); replace HO_263003 := Ext.a (Kd.V_afterv (ok := (fun k_ => ((P0_3_ k_ ∨ P0_4_ k_ ∨ P0_5_ k_ ∨ P0_6_ k_) ∨ w.heap.size ≤ k_) ∧ some k_ ≠ (.slice Ao71 y272.length co71 : Value).ownBlock ∧ k_ ≠ gb262 ∧ k_ ≠ gb267)) (Ext.nV HO_263003.out) hg hat); replace HO_263004 := Ext.a (Kd.V_afterv (ok := (fun k_ => ((P0_3_ k_ ∨ P0_4_ k_ ∨ P0_5_ k_ ∨ P0_6_ k_) ∨ w.heap.size ≤ k_) ∧ some k_ ≠ (.slice Ao71 y272.length co71 : Value).ownBlock ∧ k_ ≠ gb262 ∧ k_ ≠ gb267)) (Ext.nV HO_263004.out) hg hat); replace HO_263005 := Ext.a (Kd.V_afterv (ok := (fun k_ => ((P0_3_ k_ ∨ P0_4_ k_ ∨ P0_5_ k_ ∨ P0_6_ k_) ∨ w.heap.size ≤ k_) ∧ some k_ ≠ (.slice Ao71 y272.length co71 : Value).ownBlock ∧ k_ ≠ gb262 ∧ k_ ≠ gb267)) (Ext.nV HO_263005.out) hg hat); replace HO_263006 := Ext.a (Kd.V_afterv (ok := (fun k_ => ((P0_3_ k_ ∨ P0_4_ k_ ∨ P0_5_ k_ ∨ P0_6_ k_) ∨ w.heap.size ≤ k_) ∧ some k_ ≠ (.slice Ao71 y272.length co71 : Value).ownBlock ∧ k_ ≠ gb262 ∧ k_ ≠ gb267)) (Ext.nV HO_263006.out) hg hat); replace HO_268000 := Ext.a (Kd.V_afterv (ok := (fun k_ => ((P0_3_ k_ ∨ P0_4_ k_ ∨ P0_5_ k_ ∨ P0_6_ k_) ∨ w.heap.size ≤ k_) ∧ some k_ ≠ (.slice Ao71 y272.length co71 : Value).ownBlock ∧ k_ ≠ gb262 ∧ k_ ≠ gb267)) (Ext.nV HO_268000.out) hg hat); replace HO_268001 := Ext.a (Kd.V_afterv (ok := (fun k_ => ((P0_3_ k_ ∨ P0_4_ k_ ∨ P0_5_ k_ ∨ P0_6_ k_) ∨ w.heap.size ≤ k_) ∧ some k_ ≠ (.slice Ao71 y272.length co71 : Value).ownBlock ∧ k_ ≠ gb262 ∧ k_ ≠ gb267)) (Ext.nV HO_268001.out) hg hat); replace BK262 := Ext.a (blk_grown BK262.out hg (Kd.R_ne HO280.out BK262.out (by decide))); replace BK267 := Ext.a (blk_grown BK267.out hg (Kd.R_ne HO280.out BK267.out (by decide))); replace HO274 := Ext.a (Kd.R_after (ok := (ok27_0 w)) (Ext.nR HO274.out) hg hat); replace HB := Ext.a (hb); have HO283 := Ext.a (ho); clear HO280; clear ho hb hg hat))
                  go_roundg kj52
                  case measure => have := HK1.out; have := HJ11.out; have := HJ52.out; omega
                  case rel => exact ⟨(y281), (wrap64 (x26_1 + 1)), (by first | rfl | (simp; done) | (simp [*]; done)), H', ⟨by have := HK1.out; have := HJ11.out; have := HJ52.out; omega⟩, ⟨by (with_reducible repeat (first | apply Kd.R_alloc | apply Kd.R_drewN | apply Kd.R_drew)); exact Kd.R_mono HO283.out (fun _ hk => hk.1)⟩, ⟨by (with_reducible repeat (first | apply Kd.V_alloc | apply Kd.V_drewN | apply Kd.V_drew)); exact Kd.V_mono HO_24.out (fun _ hk => ⟨hk.1.1, ⟨hk.2, hk.1.2.2.1⟩⟩)⟩, ⟨by (with_reducible repeat (first | apply Kd.V_alloc | apply Kd.V_drewN | apply Kd.V_drew)); exact Kd.V_mono HO_263003.out (fun _ hk => ⟨hk.1.1, ⟨hk.2, hk.1.2.2.1⟩⟩)⟩, ⟨by (with_reducible repeat (first | apply Kd.V_alloc | apply Kd.V_drewN | apply Kd.V_drew)); exact Kd.V_mono HO_263004.out (fun _ hk => ⟨hk.1.1, ⟨hk.2, hk.1.2.2.1⟩⟩)⟩, ⟨by (with_reducible repeat (first | apply Kd.V_alloc | apply Kd.V_drewN | apply Kd.V_drew)); exact Kd.V_mono HO_263005.out (fun _ hk => ⟨hk.1.1, ⟨hk.2, hk.1.2.2.1⟩⟩)⟩, ⟨by (with_reducible repeat (first | apply Kd.V_alloc | apply Kd.V_drewN | apply Kd.V_drew)); exact Kd.V_mono HO_263006.out (fun _ hk => ⟨hk.1.1, ⟨hk.2, hk.1.2.2.1⟩⟩)⟩, ⟨by exact BK262.out⟩, ⟨by exact Ext.s2 GE262.out GE267.out HB.out⟩⟩
                 · rw [if_neg c65] at H; exact absurd H (by simp)
                ·
                 rw [if_neg c64] at H
                 have c64b0 : (decide (((rd_T61 l0_3 x26_1).f2) ≤ 64)) = false := by simpa using c64
                 clear c64; replace H := Option.bind_eq_some_iff.mp H; obtain ⟨t284, A760, H⟩ := H; (try dsimp only at H); have A76 := Aside0.mk A760; clear A760
                 by_cases c77 : y278.length + t284.length < 140737488355328
                 ·
                  rw [if_pos c77] at H; have LMc77 := Aside0.mk c77; clear c77; obtain ⟨y287, hy287⟩ : ∃ y_ : List Int, y_ = (y278 ++ t284) := ⟨_, rfl⟩
                  replace H : (terrierref04_room.l0 kj52 y287 (l0_3.length : Int) l0_3 (l0_3.length : Int) (wrap64 (x26_1 + 1)) a0_0 a0_1 a0_2 l0_3 l0_4 l0_5 l0_6) = some (r1, r2, r3) := by first | (rw [hy287]; with_reducible exact H) | (have H2_ := (Option.bind_some _ _).symm.trans H; rw [hy287]; with_reducible exact H2_) | (have H2_ := (Option.bind_some _ _).symm.trans H; with_reducible exact H2_) | with_reducible exact H | (rw [hy287]; exact H) | exact H
                  have Ny287 := Aside0.mk hy287; clear hy287; have H' := Aside0.mk H; clear H; have hnb78 := NB267_262.out; have hnc78 := NB262_267.out; obtain ⟨hcz79_0, hcz79_1, hcz79_2, hcz79_3⟩ := Ext.cells4 BK267.out; obtain ⟨hfz79_0, hfz79_1, hfz79_2, hfz79_3⟩ := Ext.froz4 BK267.out
                  go_wp2_with (first | ((with_reducible refine gate_dst (N := 108) rfl ?_); (try (refine gate_guard (by rfl) ?_; dsimp only)); refine Kd.R_lit (Kd.int .u8) _ 5 ?hg (N := 108) ?hd (xs := ([((((rd_T61 l0_3 x26_1).f0).length : Int)) % 256, (wrap64 (Int.tdiv ((rd_T61 l0_3 x26_1).f2) 256)) % 256, (Int.tmod ((rd_T61 l0_3 x26_1).f2) 256) % 256] : List Int)) (inner := [.int .u8 (((((rd_T61 l0_3 x26_1).f0).length : Int)) % 256), .int .u8 ((wrap64 (Int.tdiv ((rd_T61 l0_3 x26_1).f2) 256)) % 256), .int .u8 ((Int.tmod ((rd_T61 l0_3 x26_1).f2) 256) % 256)]) (ok := fun _ => True) (okp := fun _ => True) ?hr ?hp (fun _ hk => hk) trivial (Below.refl _ _) (Nat.le_refl _) (by simp) ?_; (case hd => rfl); (case hg => rfl); (case hr => first | (go_simp; done) | (go_simp; rfl)); (case hp => exact (Reps.one (show Kd.M (Kd.int .u8) _ _ _ (((((rd_T61 l0_3 x26_1).f0).length : Int)) % 256) [.int .u8 (((((rd_T61 l0_3 x26_1).f0).length : Int)) % 256)] from rfl) (Reps.one (show Kd.M (Kd.int .u8) _ _ _ ((wrap64 (Int.tdiv ((rd_T61 l0_3 x26_1).f2) 256)) % 256) [.int .u8 ((wrap64 (Int.tdiv ((rd_T61 l0_3 x26_1).f2) 256)) % 256)] from rfl) (Reps.one (show Kd.M (Kd.int .u8) _ _ _ ((Int.tmod ((rd_T61 l0_3 x26_1).f2) 256) % 256) [.int .u8 ((Int.tmod ((rd_T61 l0_3 x26_1).f2) 256) % 256)] from rfl) (Reps.none _ _))))); intro v273 w80 ho81 hb hg_ hnew_; clear hg_ hnew_; (first | rw [← Ny272.out] at ho81 | (simp only [Int.reduceToNat] at ho81; rw [← Ny272.out] at ho81)); replace HO_24 := Ext.a (Kd.V_elder' (Ext.nV HO_24.out) (Kd.R_base ho81) hb); replace HO_263003 := Ext.a (Kd.V_elder' (Ext.nV HO_263003.out) (Kd.R_base ho81) hb); replace HO_263004 := Ext.a (Kd.V_elder' (Ext.nV HO_263004.out) (Kd.R_base ho81) hb); replace HO_263005 := Ext.a (Kd.V_elder' (Ext.nV HO_263005.out) (Kd.R_base ho81) hb); replace HO_263006 := Ext.a (Kd.V_elder' (Ext.nV HO_263006.out) (Kd.R_base ho81) hb); replace HO_268000 := Ext.a (Kd.V_elder' (Ext.nV HO_268000.out) (Kd.R_base ho81) hb); replace HO_268001 := Ext.a (Kd.V_elder' (Ext.nV HO_268001.out) (Kd.R_base ho81) hb); have HO274 := Ext.a (Kd.R_lower (Kd.R_new' (Kd.R_newM (M := fun k_ => (w.heap.size ≤ k_)) ho81 (below_size (Ext.s2 GE262.out GE267.out HB.out)) (fun k_ h_ => h_)) (Kd.R_lt (Ext.nR HO_5.out))) (below_size (Ext.s2 GE262.out GE267.out HB.out))); replace HO_5 := Ext.a (Kd.R_elder' (Ext.nR HO_5.out) (Kd.R_base ho81) hb); replace BK262 := Ext.a (blk_below BK262.out hb); replace BK267 := Ext.a (blk_below BK267.out hb); replace HB := Ext.a (below_step (Ext.s2 GE262.out GE267.out HB.out) hb); clear hb ho81; obtain ⟨Ao83, co83, eo83⟩ := Kd.R_slice HO274.out; subst eo83) | ((with_reducible refine gate_builtin (b := .append) (xs := #[.tmp 95, .tmp 108]) rfl ?_); (try (refine gate_guard (by rfl) ?_; dsimp only)); at_builtin; refine Kd.R_append_rows (Kd.int .u8) (w0 := w) w.heap.size rfl (.tmp 95) (.tmp 108) 25 5 (.int .u8 0) 1 rfl Try.underlying25 info5 rfl (by decide) (by omega) u5 x5_1 y272 _ _ _ (ok27_1 w (.slice Ao83 y272.length co83)) (fun _ => False) rfl rfl ?aO ?aR (fun _ _ h => h) (fun _ h => h.elim) ?aF ?aB ?aS ?aL ?_; (case aR => exact Ext.nC (Kd.R_reads' HO274.out).2.2); (case aB => exact (Ext.s2 GE262.out GE267.out HB.out)); (case aF => exact (fun k_ hk => ⟨(Nat.le_trans (below_size (Ext.s2 GE262.out GE267.out HB.out)) hk), Kd.fresh' (Kd.R_lt (Ext.nR HO274.out)) k_ hk⟩)); (case aO => exact (Ext.nR HO_5.out)); (case aS => exact (below_size (Ext.s2 GE262.out GE267.out HB.out))); (case aL => have := LMc62.out; omega); intro v276 w82 ho hb hg hat; rw [← Ny275.out] at ho; replace HO_24 := Ext.a (Kd.V_afterv (ok := (fun k_ => ((P0_3_ k_ ∨ P0_4_ k_ ∨ P0_5_ k_ ∨ P0_6_ k_) ∨ w.heap.size ≤ k_) ∧ some k_ ≠ (.slice Ao83 y272.length co83 : Value).ownBlock ∧ k_ ≠ gb262 ∧ k_ ≠ gb267)) (Ext.nV (Kd.V_mono HO_24.out (fun _ hk => ⟨⟨hk.1.1, ⟨hk.2, ⟨hk.1.2.2.1, hk.1.2.2.2⟩⟩⟩, hk.1.2.1⟩))) hg hat); replace HO_263003 := Ext.a (Kd.V_afterv (ok := (fun k_ => ((P0_3_ k_ ∨ P0_4_ k_ ∨ P0_5_ k_ ∨ P0_6_ k_) ∨ w.heap.size ≤ k_) ∧ some k_ ≠ (.slice Ao83 y272.length co83 : Value).ownBlock ∧ k_ ≠ gb262 ∧ k_ ≠ gb267)) (Ext.nV (Kd.V_mono HO_263003.out (fun _ hk => ⟨⟨hk.1.1, ⟨hk.2, ⟨hk.1.2.2.1, hk.1.2.2.2⟩⟩⟩, hk.1.2.1⟩))) hg hat); replace HO_263004 := Ext.a (Kd.V_afterv (ok := (fun k_ => ((P0_3_ k_ ∨ P0_4_ k_ ∨ P0_5_ k_ ∨ P0_6_ k_) ∨ w.heap.size ≤ k_) ∧ some k_ ≠ (.slice Ao83 y272.length co83 : Value).ownBlock ∧ k_ ≠ gb262 ∧ k_ ≠ gb267)) (Ext.nV (Kd.V_mono HO_263004.out (fun _ hk => ⟨⟨hk.1.1, ⟨hk.2, ⟨hk.1.2.2.1, hk.1.2.2.2⟩⟩⟩, hk.1.2.1⟩))) hg hat); replace HO_263005 := Ext.a (Kd.V_afterv (ok := (fun k_ => ((P0_3_ k_ ∨ P0_4_ k_ ∨ P0_5_ k_ ∨ P0_6_ k_) ∨ w.heap.size ≤ k_) ∧ some k_ ≠ (.slice Ao83 y272.length co83 : Value).ownBlock ∧ k_ ≠ gb262 ∧ k_ ≠ gb267)) (Ext.nV (Kd.V_mono HO_263005.out (fun _ hk => ⟨⟨hk.1.1, ⟨hk.2, ⟨hk.1.2.2.1, hk.1.2.2.2⟩⟩⟩, hk.1.2.1⟩))) hg hat); replace HO_263006 := Ext.a (Kd.V_afterv (ok := (fun k_ => ((P0_3_ k_ ∨ P0_4_ k_ ∨ P0_5_ k_ ∨ P0_6_ k_) ∨ w.heap.size ≤ k_) ∧ some k_ ≠ (.slice Ao83 y272.length co83 : Value).ownBlock ∧ k_ ≠ gb262 ∧ k_ ≠ gb267)) (Ext.nV (Kd.V_mono HO_263006.out (fun _ hk => ⟨⟨hk.1.1, ⟨hk.2, ⟨hk.1.2.2.1, hk.1.2.2.2⟩⟩⟩, hk.1.2.1⟩))) hg hat); replace HO_268000 := Ext.a (Kd.V_afterv (ok := (fun k_ => ((P0_3_ k_ ∨ P0_4_ k_ ∨ P0_5_ k_ ∨ P0_6_ k_) ∨ w.heap.size ≤ k_) ∧ some k_ ≠ (.slice Ao83 y272.length co83 : Value).ownBlock ∧ k_ ≠ gb262 ∧ k_ ≠ gb267)) (Ext.nV (Kd.V_mono HO_268000.out (fun _ hk => ⟨⟨hk.1.1, ⟨hk.2, ⟨hk.1.2.2.1, hk.1.2.2.2⟩⟩⟩, hk.1.2.1⟩))) hg hat); replace HO_268001 := Ext.a (Kd.V_afterv (ok := (fun k_ => ((P0_3_ k_ ∨ P0_4_ k_ ∨ P0_5_ k_ ∨ P0_6_ k_) ∨ w.heap.size ≤ k_) ∧ some k_ ≠ (.slice Ao83 y272.length co83 : Value).ownBlock ∧ k_ ≠ gb262 ∧ k_ ≠ gb267)) (Ext.nV (Kd.V_mono HO_268001.out (fun _ hk => ⟨⟨hk.1.1, ⟨hk.2, ⟨hk.1.2.2.1, hk.1.2.2.2⟩⟩⟩, hk.1.2.1⟩))) hg hat); replace BK262 := Ext.a (blk_grown BK262.out hg (Kd.R_ne HO_5.out BK262.out (by decide))); replace BK267 := Ext.a (blk_grown BK267.out hg (Kd.R_ne HO_5.out BK267.out (by decide))); replace HO274 := Ext.a (Kd.R_after (ok := (ok27_0 w)) (Ext.nR (Kd.R_mono HO274.out (fun _ hk => ⟨hk.1.1, hk.2⟩))) hg hat); replace HB := Ext.a (hb); have HO277 := Ext.a (ho); clear HO_5; clear ho hb hg hat; obtain ⟨hcz84_0, hcz84_1, hcz84_2, hcz84_3⟩ := Ext.cells4 BK267.out; obtain ⟨hfz84_0, hfz84_1, hfz84_2, hfz84_3⟩ := Ext.froz4 BK267.out) | ((with_reducible refine gate_builtin (b := .append) (xs := #[.tmp 110, .tmp 112]) rfl ?_); (try (refine gate_guard (by rfl) ?_; dsimp only)); at_builtin; refine Kd.R_append_rows (Kd.int .u8) (w0 := w) w.heap.size rfl (.tmp 110) (.tmp 112) 25 5 (.int .u8 0) 1 rfl Try.underlying25 info5 rfl (by decide) (by omega) v276 y275 ((rd_T61 l0_3 x26_1).f0) _ _ _ (ok27_1 w (.slice Ao83 y272.length co83)) (fun _ => False) rfl rfl ?aO ?aR (fun _ _ h => h) (fun _ h => h.elim) ?aF ?aB ?aS ?aL ?_; (case aR => exact Ext.nC (Kd.V_reads' HO_268000.out).2.2); (case aB => exact (Ext.s2 GE262.out GE267.out HB.out)); (case aF => exact (fun k_ hk => ⟨(Nat.le_trans (below_size (Ext.s2 GE262.out GE267.out HB.out)) hk), Kd.fresh' (Kd.R_lt (Ext.nR HO274.out)) k_ hk⟩)); (case aO => exact (Ext.nR HO277.out)); (case aS => exact (below_size (Ext.s2 GE262.out GE267.out HB.out))); (case aL => have := LMc63.out; omega); intro v279 w85 ho hb hg hat; rw [← Ny278.out] at ho; replace HO_24 := Ext.a (Kd.V_afterv (ok := (fun k_ => ((P0_3_ k_ ∨ P0_4_ k_ ∨ P0_5_ k_ ∨ P0_6_ k_) ∨ w.heap.size ≤ k_) ∧ some k_ ≠ (.slice Ao83 y272.length co83 : Value).ownBlock ∧ k_ ≠ gb262 ∧ k_ ≠ gb267)) (Ext.nV HO_24.out) hg hat); replace HO_263003 := Ext.a (Kd.V_afterv (ok := (fun k_ => ((P0_3_ k_ ∨ P0_4_ k_ ∨ P0_5_ k_ ∨ P0_6_ k_) ∨ w.heap.size ≤ k_) ∧ some k_ ≠ (.slice Ao83 y272.length co83 : Value).ownBlock ∧ k_ ≠ gb262 ∧ k_ ≠ gb267)) (Ext.nV HO_263003.out) hg hat); replace HO_263004 := Ext.a (Kd.V_afterv (ok := (fun k_ => ((P0_3_ k_ ∨ P0_4_ k_ ∨ P0_5_ k_ ∨ P0_6_ k_) ∨ w.heap.size ≤ k_) ∧ some k_ ≠ (.slice Ao83 y272.length co83 : Value).ownBlock ∧ k_ ≠ gb262 ∧ k_ ≠ gb267)) (Ext.nV HO_263004.out) hg hat); replace HO_263005 := Ext.a (Kd.V_afterv (ok := (fun k_ => ((P0_3_ k_ ∨ P0_4_ k_ ∨ P0_5_ k_ ∨ P0_6_ k_) ∨ w.heap.size ≤ k_) ∧ some k_ ≠ (.slice Ao83 y272.length co83 : Value).ownBlock ∧ k_ ≠ gb262 ∧ k_ ≠ gb267)) (Ext.nV HO_263005.out) hg hat); replace HO_263006 := Ext.a (Kd.V_afterv (ok := (fun k_ => ((P0_3_ k_ ∨ P0_4_ k_ ∨ P0_5_ k_ ∨ P0_6_ k_) ∨ w.heap.size ≤ k_) ∧ some k_ ≠ (.slice Ao83 y272.length co83 : Value).ownBlock ∧ k_ ≠ gb262 ∧ k_ ≠ gb267)) (Ext.nV HO_263006.out) hg hat); replace HO_268000 := Ext.a (Kd.V_afterv (ok := (fun k_ => ((P0_3_ k_ ∨ P0_4_ k_ ∨ P0_5_ k_ ∨ P0_6_ k_) ∨ w.heap.size ≤ k_) ∧ some k_ ≠ (.slice Ao83 y272.length co83 : Value).ownBlock ∧ k_ ≠ gb262 ∧ k_ ≠ gb267)) (Ext.nV HO_268000.out) hg hat); replace HO_268001 := Ext.a (Kd.V_afterv (ok := (fun k_ => ((P0_3_ k_ ∨ P0_4_ k_ ∨ P0_5_ k_ ∨ P0_6_ k_) ∨ w.heap.size ≤ k_) ∧ some k_ ≠ (.slice Ao83 y272.length co83 : Value).ownBlock ∧ k_ ≠ gb262 ∧ k_ ≠ gb267)) (Ext.nV HO_268001.out) hg hat); replace BK262 := Ext.a (blk_grown BK262.out hg (Kd.R_ne HO277.out BK262.out (by decide))); replace BK267 := Ext.a (blk_grown BK267.out hg (Kd.R_ne HO277.out BK267.out (by decide))); replace HO274 := Ext.a (Kd.R_after (ok := (ok27_0 w)) (Ext.nR HO274.out) hg hat); replace HB := Ext.a (hb); have HO280 := Ext.a (ho); clear HO277; clear ho hb hg hat; obtain ⟨hcz86_0, hcz86_1, hcz86_2, hcz86_3⟩ := Ext.cells4 BK267.out; obtain ⟨hfz86_0, hfz86_1, hfz86_2, hfz86_3⟩ := Ext.froz4 BK267.out) | ((with_reducible refine gate_callee (f := 32) rfl ?_); refine Ext.gs (some 123) rfl rfl Try.func32 #[.int .u64 (IntKind.u64.wrap (((rd_T61 l0_3 x26_1).f3))), .int .i64 4] rfl ?_; (with_reducible refine (terrierref01_Put.calls kj52 (IntKind.u64.wrap (((rd_T61 l0_3 x26_1).f3))) 4 t284 _ A76.out).mono ?_); rintro e w87 ⟨v285, rfl, ho0, hb⟩; refine ⟨_, rfl, ?_⟩; replace HO_24 := Ext.a (Kd.V_elder' (Ext.nV HO_24.out) (Kd.R_base ho0) hb); replace HO_263003 := Ext.a (Kd.V_elder' (Ext.nV HO_263003.out) (Kd.R_base ho0) hb); replace HO_263004 := Ext.a (Kd.V_elder' (Ext.nV HO_263004.out) (Kd.R_base ho0) hb); replace HO_263005 := Ext.a (Kd.V_elder' (Ext.nV HO_263005.out) (Kd.R_base ho0) hb); replace HO_263006 := Ext.a (Kd.V_elder' (Ext.nV HO_263006.out) (Kd.R_base ho0) hb); replace HO_268000 := Ext.a (Kd.V_elder' (Ext.nV HO_268000.out) (Kd.R_base ho0) hb); replace HO_268001 := Ext.a (Kd.V_elder' (Ext.nV HO_268001.out) (Kd.R_base ho0) hb); have HO286 := Ext.a (Kd.R_lower (Kd.R_new' (Kd.R_new' (Kd.R_newM (M := fun k_ => (w.heap.size ≤ k_)) ho0 (below_size (Ext.s2 GE262.out GE267.out HB.out)) (fun k_ h_ => h_)) (Kd.R_lt (Ext.nR HO274.out))) (Kd.R_lt (Ext.nR HO280.out))) (below_size (Ext.s2 GE262.out GE267.out HB.out))); replace HO274 := Ext.a (Kd.R_elder' (Ext.nR HO274.out) (Kd.R_base ho0) hb); replace HO280 := Ext.a (Kd.R_elder' (Ext.nR HO280.out) (Kd.R_base ho0) hb); replace BK262 := Ext.a (blk_below BK262.out hb); replace BK267 := Ext.a (blk_below BK267.out hb); replace HB := Ext.a (below_step (Ext.s2 GE262.out GE267.out HB.out) hb); (try clear hb ho0); obtain ⟨Ao89, co89, eo89⟩ := Kd.R_slice HO286.out; subst eo89) | ((with_reducible refine gate_builtin (b := .append) (xs := #[.tmp 119, .tmp 123]) rfl ?_); (try (refine gate_guard (by rfl) ?_; dsimp only)); at_builtin; refine Kd.R_append_rows (Kd.int .u8) (w0 := w) w.heap.size rfl (.tmp 119) (.tmp 123) 25 5 (.int .u8 0) 1 rfl Try.underlying25 info5 rfl (by decide) (by omega) v279 y278 t284 _ _ _ (ok27_2 w (.slice Ao83 y272.length co83) (.slice Ao89 t284.length co89)) (fun _ => False) rfl rfl ?aO ?aR (fun _ _ h => h) (fun _ h => h.elim) ?aF ?aB ?aS ?aL ?_; (case aR => exact Ext.nC (Kd.R_reads' HO286.out).2.2); (case aB => exact (Ext.s2 GE262.out GE267.out HB.out)); (case aF => exact (fun k_ hk => ⟨(Nat.le_trans (below_size (Ext.s2 GE262.out GE267.out HB.out)) hk), Kd.fresh' (Kd.R_lt (Ext.nR HO274.out)) k_ hk, Kd.fresh' (Kd.R_lt (Ext.nR HO286.out)) k_ hk⟩)); (case aO => exact (Ext.nR (Kd.R_mono HO280.out (fun _ hk => ⟨hk.1.1, ⟨hk.1.2, hk.2⟩⟩)))); (case aS => exact (below_size (Ext.s2 GE262.out GE267.out HB.out))); (case aL => have := LMc77.out; omega); intro v288 w88 ho hb hg hat; rw [← Ny287.out] at ho; replace HO_24 := Ext.a (Kd.V_afterv (ok := (fun k_ => ((P0_3_ k_ ∨ P0_4_ k_ ∨ P0_5_ k_ ∨ P0_6_ k_) ∨ w.heap.size ≤ k_) ∧ some k_ ≠ (.slice Ao83 y272.length co83 : Value).ownBlock ∧ some k_ ≠ (.slice Ao89 t284.length co89 : Value).ownBlock ∧ k_ ≠ gb262 ∧ k_ ≠ gb267)) (Ext.nV (Kd.V_mono HO_24.out (fun _ hk => ⟨⟨hk.1.1.1, ⟨hk.1.1.2.1, ⟨hk.2, ⟨hk.1.1.2.2.1, hk.1.1.2.2.2⟩⟩⟩⟩, hk.1.2⟩))) hg hat); replace HO_263003 := Ext.a (Kd.V_afterv (ok := (fun k_ => ((P0_3_ k_ ∨ P0_4_ k_ ∨ P0_5_ k_ ∨ P0_6_ k_) ∨ w.heap.size ≤ k_) ∧ some k_ ≠ (.slice Ao83 y272.length co83 : Value).ownBlock ∧ some k_ ≠ (.slice Ao89 t284.length co89 : Value).ownBlock ∧ k_ ≠ gb262 ∧ k_ ≠ gb267)) (Ext.nV (Kd.V_mono HO_263003.out (fun _ hk => ⟨⟨hk.1.1.1, ⟨hk.1.1.2.1, ⟨hk.2, ⟨hk.1.1.2.2.1, hk.1.1.2.2.2⟩⟩⟩⟩, hk.1.2⟩))) hg hat); replace HO_263004 := Ext.a (Kd.V_afterv (ok := (fun k_ => ((P0_3_ k_ ∨ P0_4_ k_ ∨ P0_5_ k_ ∨ P0_6_ k_) ∨ w.heap.size ≤ k_) ∧ some k_ ≠ (.slice Ao83 y272.length co83 : Value).ownBlock ∧ some k_ ≠ (.slice Ao89 t284.length co89 : Value).ownBlock ∧ k_ ≠ gb262 ∧ k_ ≠ gb267)) (Ext.nV (Kd.V_mono HO_263004.out (fun _ hk => ⟨⟨hk.1.1.1, ⟨hk.1.1.2.1, ⟨hk.2, ⟨hk.1.1.2.2.1, hk.1.1.2.2.2⟩⟩⟩⟩, hk.1.2⟩))) hg hat); replace HO_263005 := Ext.a (Kd.V_afterv (ok := (fun k_ => ((P0_3_ k_ ∨ P0_4_ k_ ∨ P0_5_ k_ ∨ P0_6_ k_) ∨ w.heap.size ≤ k_) ∧ some k_ ≠ (.slice Ao83 y272.length co83 : Value).ownBlock ∧ some k_ ≠ (.slice Ao89 t284.length co89 : Value).ownBlock ∧ k_ ≠ gb262 ∧ k_ ≠ gb267)) (Ext.nV (Kd.V_mono HO_263005.out (fun _ hk => ⟨⟨hk.1.1.1, ⟨hk.1.1.2.1, ⟨hk.2, ⟨hk.1.1.2.2.1, hk.1.1.2.2.2⟩⟩⟩⟩, hk.1.2⟩))) hg hat); replace HO_263006 := Ext.a (Kd.V_afterv (ok := (fun k_ => ((P0_3_ k_ ∨ P0_4_ k_ ∨ P0_5_ k_ ∨ P0_6_ k_) ∨ w.heap.size ≤ k_) ∧ some k_ ≠ (.slice Ao83 y272.length co83 : Value).ownBlock ∧ some k_ ≠ (.slice Ao89 t284.length co89 : Value).ownBlock ∧ k_ ≠ gb262 ∧ k_ ≠ gb267)) (Ext.nV (Kd.V_mono HO_263006.out (fun _ hk => ⟨⟨hk.1.1.1, ⟨hk.1.1.2.1, ⟨hk.2, ⟨hk.1.1.2.2.1, hk.1.1.2.2.2⟩⟩⟩⟩, hk.1.2⟩))) hg hat); replace HO_268000 := Ext.a (Kd.V_afterv (ok := (fun k_ => ((P0_3_ k_ ∨ P0_4_ k_ ∨ P0_5_ k_ ∨ P0_6_ k_) ∨ w.heap.size ≤ k_) ∧ some k_ ≠ (.slice Ao83 y272.length co83 : Value).ownBlock ∧ some k_ ≠ (.slice Ao89 t284.length co89 : Value).ownBlock ∧ k_ ≠ gb262 ∧ k_ ≠ gb267)) (Ext.nV (Kd.V_mono HO_268000.out (fun _ hk => ⟨⟨hk.1.1.1, ⟨hk.1.1.2.1, ⟨hk.2, ⟨hk.1.1.2.2.1, hk.1.1.2.2.2⟩⟩⟩⟩, hk.1.2⟩))) hg hat); replace HO_268001 := Ext.a (Kd.V_afterv (ok := (fun k_ => ((P0_3_ k_ ∨ P0_4_ k_ ∨ P0_5_ k_ ∨ P0_6_ k_) ∨ w.heap.size ≤ k_) ∧ some k_ ≠ (.slice Ao83 y272.length co83 : Value).ownBlock ∧ some k_ ≠ (.slice Ao89 t284.length co89 : Value).ownBlock ∧ k_ ≠ gb262 ∧ k_ ≠ gb267)) (Ext.nV (Kd.V_mono HO_268001.out (fun _ hk => ⟨⟨hk.1.1.1, ⟨hk.1.1.2.1, ⟨hk.2, ⟨hk.1.1.2.2.1, hk.1.1.2.2.2⟩⟩⟩⟩, hk.1.2⟩))) hg hat); replace BK262 := Ext.a (blk_grown BK262.out hg (Kd.R_ne HO280.out BK262.out (by decide))); replace BK267 := Ext.a (blk_grown BK267.out hg (Kd.R_ne HO280.out BK267.out (by decide))); replace HO274 := Ext.a (Kd.R_after (ok := (ok27_1 w (.slice Ao89 t284.length co89))) (Ext.nR (Kd.R_mono HO274.out (fun _ hk => ⟨⟨hk.1.1, hk.2⟩, hk.1.2⟩))) hg hat); replace HO286 := Ext.a (Kd.R_after (ok := (ok27_1 w (.slice Ao83 y272.length co83))) (Ext.nR (Kd.R_mono HO286.out (fun _ hk => ⟨⟨hk.1.1.1, hk.1.2⟩, hk.2⟩))) hg hat); replace HB := Ext.a (hb); have HO289 := Ext.a (ho); clear HO280; clear ho hb hg hat))
                  go_roundg kj52
                  case measure => have := HK1.out; have := HJ11.out; have := HJ52.out; omega
                  case rel => exact ⟨(y287), (wrap64 (x26_1 + 1)), (by first | rfl | (simp; done) | (simp [*]; done)), H', ⟨by have := HK1.out; have := HJ11.out; have := HJ52.out; omega⟩, ⟨by (with_reducible repeat (first | apply Kd.R_alloc | apply Kd.R_drewN | apply Kd.R_drew)); exact Kd.R_mono HO289.out (fun _ hk => hk.1)⟩, ⟨by (with_reducible repeat (first | apply Kd.V_alloc | apply Kd.V_drewN | apply Kd.V_drew)); exact Kd.V_mono HO_24.out (fun _ hk => ⟨hk.1.1, ⟨hk.2, hk.1.2.2.2.1⟩⟩)⟩, ⟨by (with_reducible repeat (first | apply Kd.V_alloc | apply Kd.V_drewN | apply Kd.V_drew)); exact Kd.V_mono HO_263003.out (fun _ hk => ⟨hk.1.1, ⟨hk.2, hk.1.2.2.2.1⟩⟩)⟩, ⟨by (with_reducible repeat (first | apply Kd.V_alloc | apply Kd.V_drewN | apply Kd.V_drew)); exact Kd.V_mono HO_263004.out (fun _ hk => ⟨hk.1.1, ⟨hk.2, hk.1.2.2.2.1⟩⟩)⟩, ⟨by (with_reducible repeat (first | apply Kd.V_alloc | apply Kd.V_drewN | apply Kd.V_drew)); exact Kd.V_mono HO_263005.out (fun _ hk => ⟨hk.1.1, ⟨hk.2, hk.1.2.2.2.1⟩⟩)⟩, ⟨by (with_reducible repeat (first | apply Kd.V_alloc | apply Kd.V_drewN | apply Kd.V_drew)); exact Kd.V_mono HO_263006.out (fun _ hk => ⟨hk.1.1, ⟨hk.2, hk.1.2.2.2.1⟩⟩)⟩, ⟨by exact BK262.out⟩, ⟨by exact Ext.s2 GE262.out GE267.out HB.out⟩⟩
                 · rw [if_neg c77] at H; exact absurd H (by simp)
               · rw [if_neg c63] at H; exact absurd H (by simp)
              · rw [if_neg c62] at H; exact absurd H (by simp)
       · rw [if_neg c11] at H; exact absurd H (by simp)
      · rw [if_neg c10] at H; exact absurd H (by simp)
     ·
      rw [if_neg c9] at H; have c9b0 := decide_eq_false c9; clear c9; have H' := Aside0.mk H; clear H
      as_aux_lemma =>
       go_wp2
       go_meet
       case rel => exact ⟨_, (x5_1), ((l0_3.length : Int)), (by first | rfl | (simp; done) | (simp [*]; done)), H', ⟨by have := HK1.out; first | omega | exact Nat.le_refl _⟩, ⟨by exact Ext.nR HO_5.out⟩, ⟨by (with_reducible repeat (first | apply Kd.V_alloc | apply Kd.V_drewN | apply Kd.V_drew)); exact HO_263003.out⟩, ⟨by (with_reducible repeat (first | apply Kd.V_alloc | apply Kd.V_drewN | apply Kd.V_drew)); exact HO_263004.out⟩, ⟨by (with_reducible repeat (first | apply Kd.V_alloc | apply Kd.V_drewN | apply Kd.V_drew)); exact HO_263005.out⟩, ⟨by (with_reducible repeat (first | apply Kd.V_alloc | apply Kd.V_drewN | apply Kd.V_drew)); exact HO_263006.out⟩, ⟨by exact BK262.out⟩, ⟨by exact Ext.s1 GE262.out HB.out⟩⟩
  ·
   rw [if_neg c7] at H; obtain ⟨c7b0, c7b1⟩ := Ext.eF c7
   (first | rw [c7b0] | (simp only [i64_w, i32_w]; rw [c7b0]) | skip)
   by_cases c90 : a0_0 = 2
   ·
    rw [if_pos c90] at H; obtain ⟨c90b0, c90b1⟩ := Ext.eT c90; clear c90; have H' := Aside0.mk H; clear H; have hcz91 := Ext.cells7 BK262.out; have hfz91 := Ext.froz7 BK262.out
    go_wp2
    go_loopg [5, 134] k (fun kq v5 v134 w' => ∃ (x5_1 : List Int) (x134_1 : Int), v134 = .int .i64 x134_1 ∧ Aside0 (terrierref04_room.l1 kq x5_1 (l0_4.length : Int) l0_4 (l0_4.length : Int) x134_1 a0_0 a0_1 a0_2 l0_3 l0_4 l0_5 l0_6 = some (r1, r2, r3)) ∧ Aside0 (kq ≤ k) ∧ Aside0 (Kd.R (Kd.int .u8) 5 w' w.heap.size (ok27_0 w) v5 x5_1) ∧ Aside0 (Kd.V k62 62 w' w.heap.size (fun k_ => ((P0_3_ k_ ∨ P0_4_ k_ ∨ P0_5_ k_ ∨ P0_6_ k_) ∨ w.heap.size ≤ k_) ∧ some k_ ≠ (v5 : Value).ownBlock ∧ k_ ≠ gb262) (.slice A0_4 l0_4.length c0_4) l0_4) ∧ Aside0 (Kd.V k61 61 w' w.heap.size (fun k_ => ((P0_3_ k_ ∨ P0_4_ k_ ∨ P0_5_ k_ ∨ P0_6_ k_) ∨ w.heap.size ≤ k_) ∧ some k_ ≠ (v5 : Value).ownBlock ∧ k_ ≠ gb262) (.slice A0_3 l0_3.length c0_3) l0_3) ∧ Aside0 (Kd.V k62 62 w' w.heap.size (fun k_ => ((P0_3_ k_ ∨ P0_4_ k_ ∨ P0_5_ k_ ∨ P0_6_ k_) ∨ w.heap.size ≤ k_) ∧ some k_ ≠ (v5 : Value).ownBlock ∧ k_ ≠ gb262) (.slice A0_4 l0_4.length c0_4) l0_4) ∧ Aside0 (Kd.V (Kd.int .u8) 5 w' w.heap.size (fun k_ => ((P0_3_ k_ ∨ P0_4_ k_ ∨ P0_5_ k_ ∨ P0_6_ k_) ∨ w.heap.size ≤ k_) ∧ some k_ ≠ (v5 : Value).ownBlock ∧ k_ ≠ gb262) (.slice A0_5 l0_5.length c0_5) l0_5) ∧ Aside0 (Kd.V (Kd.int .i64) 3 w' w.heap.size (fun k_ => ((P0_3_ k_ ∨ P0_4_ k_ ∨ P0_5_ k_ ∨ P0_6_ k_) ∨ w.heap.size ≤ k_) ∧ some k_ ≠ (v5 : Value).ownBlock ∧ k_ ≠ gb262) (.slice A0_6 l0_6.length c0_6) l0_6) ∧ Aside0 (w'.heap[gb262]? = some (.cells #[.int .i64 a0_0, .int .u64 a0_1, .int .i64 a0_2, (.slice A0_3 l0_3.length c0_3), (.slice A0_4 l0_4.length c0_4), (.slice A0_5 l0_5.length c0_5), (.slice A0_6 l0_6.length c0_6)] 34 (0, 0))) ∧ Aside0 (Below w.heap.size w w'))
    case atStart => exact ⟨(y263), (0), (by first | rfl | (simp; done) | (simp [*]; done)), H', ⟨Nat.le_refl _⟩, ⟨by (with_reducible repeat (first | apply Kd.R_alloc | apply Kd.R_drewN | apply Kd.R_drew)); exact Kd.R_mono HO265.out (fun _ hk => hk.1)⟩, ⟨by (with_reducible repeat (first | apply Kd.V_alloc | apply Kd.V_drewN | apply Kd.V_drew)); exact Kd.V_mono HO0_4.out (fun _ hk => ⟨hk.1.1, ⟨hk.2, hk.1.2⟩⟩)⟩, ⟨by (with_reducible repeat (first | apply Kd.V_alloc | apply Kd.V_drewN | apply Kd.V_drew)); exact Kd.V_mono HO0_3.out (fun _ hk => ⟨hk.1.1, ⟨hk.2, hk.1.2⟩⟩)⟩, ⟨by (with_reducible repeat (first | apply Kd.V_alloc | apply Kd.V_drewN | apply Kd.V_drew)); exact Kd.V_mono HO0_4.out (fun _ hk => ⟨hk.1.1, ⟨hk.2, hk.1.2⟩⟩)⟩, ⟨by (with_reducible repeat (first | apply Kd.V_alloc | apply Kd.V_drewN | apply Kd.V_drew)); exact Kd.V_mono HO0_5.out (fun _ hk => ⟨hk.1.1, ⟨hk.2, hk.1.2⟩⟩)⟩, ⟨by (with_reducible repeat (first | apply Kd.V_alloc | apply Kd.V_drewN | apply Kd.V_drew)); exact Kd.V_mono HO0_6.out (fun _ hk => ⟨hk.1.1, ⟨hk.2, hk.1.2⟩⟩)⟩, ⟨by exact BK262.out⟩, ⟨by exact Ext.s1 GE262.out HB.out⟩⟩
    case round => as_aux_lemma =>
     clear H'; (try clear c6 c7b0 c7b1 c9b0 c32 c64b0 p64 c66 c78 c90b0 c90b1 hcz67_0 hcz67_1 hcz67_2 hcz67_3 hcz72_0 hcz72_1 hcz72_2 hcz72_3 hcz74_0 hcz74_1 hcz74_2 hcz74_3 hcz79_0 hcz79_1 hcz79_2 hcz79_3 hcz84_0 hcz84_1 hcz84_2 hcz84_3 hcz86_0 hcz86_1 hcz86_2 hcz86_3 hcz91 hfz67_0 hfz67_1 hfz67_2 hfz67_3 hfz72_0 hfz72_1 hfz72_2 hfz72_3 hfz74_0 hfz74_1 hfz74_2 hfz74_3 hfz79_0 hfz79_1 hfz79_2 hfz79_3 hfz84_0 hfz84_1 hfz84_2 hfz84_3 hfz86_0 hfz86_1 hfz86_2 hfz86_3 hfz91); obtain ⟨x5_1, x134_1, rfl, HA, HK1, HO_5, HO_132, HO_263003, HO_263004, HO_263005, HO_263006, BK262, HB⟩ := hrel; cases gk with
     | zero => exact absurd HA.out (by simp [terrierref04_room.l1])
     | succ k1 =>
      have H := HA.out; clear HA; simp only [terrierref04_room.l1] at H
      by_cases c92 : x134_1 < (l0_4.length : Int)
      ·
       rw [if_pos c92] at H; have c92b0 := decide_eq_true c92; clear c92
       by_cases c93 : 0 ≤ x134_1
       ·
        rw [if_pos c93] at H; have c93b0 := decide_eq_true c93; clear c93
        by_cases c94 : x134_1 < (l0_4.length : Int)
        ·
         rw [if_pos c94] at H; have c94b0 := decide_eq_true c94; clear c94; have HC95 := Aside0.mk H; clear H; have p290 : 0 ≤ (x134_1 : Int) := of_decide_eq_true (by first | (with_reducible assumption) | assumption); have q290 : x134_1 < (l0_4.length : Int) := of_decide_eq_true (by first | (with_reducible assumption) | assumption); obtain ⟨ad290, A290_0, c290_0, e290, hx290_0, hx290_1, hl290_0, hi290_0⟩ := at_T62 (Kd.V_reads' HO_132.out).2.2 x134_1 p290 q290; cases e290; obtain ⟨ce290, hce290, hMe290, hcc290⟩ := Kd.V_get HO_132.out z62 x134_1 p290 (by first | exact q290 | exact of_decide_eq_true (by first | (with_reducible assumption) | assumption) | (have e_ := (Kd.V_reads' HO_132.out).1; omega)); obtain ⟨ua290_0, uc290_0, rfl, ul290_0, ge290_0⟩ := k62_openF hMe290; have hv290_0 := hcc290 0 _ rfl; rw [Nat.add_zero] at hv290_0; replace hv290_0 := Option.some.inj (hv290_0.symm.trans hx290_0)
         injection hv290_0 with hva_ hvn_ hvc_
         rw [hva_] at ge290_0; rw [hvc_] at ul290_0; have HL290_0 := Ext.a (show Kd.V (Kd.int .u8) 5 _ w.heap.size _ _ ((rd_T62 l0_4 x134_1).f0) from Kd.V_mk ul290_0 ge290_0); clear hva_ hvn_ hvc_ ge290_0 ul290_0; clear hcc290 hce290; have HR290_0 := Aside0.mk hi290_0; have HC290_0 := Aside0.mk hl290_0; clear hi290_0 hl290_0; replace p290 := eq_true p290; replace q290 := eq_true q290
         go_upto_region 25 with (first | ((with_reducible refine gate_dst (N := 138) rfl ?_); (try (refine gate_guard (by rfl) ?_; dsimp only)); refine Ext.struct_load (hgd := ?hg) (t := 62) (x := ?vx_138) (ho := ?ho) (cs := [.slice A290_0 ((rd_T62 l0_4 x134_1).f0).length c290_0, .int .i64 ((rd_T62 l0_4 x134_1).f1)]) (haddr := ?ha) Try.underlying62 rfl (by kernel_rfl) ⟨hx290_0, hx290_1, trivial⟩ ?_; (case ho => rfl); (case hg => rfl); (case ha => rfl)) | ((with_reducible refine gate_dst (N := 11) rfl ?_); (try (refine gate_guard (by rfl) ?_; dsimp only)); refine Ext.alloc_event (hgd := ?hg) (N := 11) (_hd := ?hd) (t := 62) (ho := ?ho) info62 ?_; (case ho => rfl); (case hd => rfl); (case hg => rfl); intro gb291 hg w96 hbox hb; replace HO_5 := Ext.a (Kd.R_below (Ext.nR HO_5.out) hb); replace HO_132 := Ext.a (Kd.V_below (Kd.V_elderB (Ext.nV HO_132.out) gb291 (Nat.le_of_eq hg.symm)) hb); replace HO_263003 := Ext.a (Kd.V_below (Kd.V_elderB (Ext.nV HO_263003.out) gb291 (Nat.le_of_eq hg.symm)) hb); replace HO_263004 := Ext.a (Kd.V_below (Kd.V_elderB (Ext.nV HO_263004.out) gb291 (Nat.le_of_eq hg.symm)) hb); replace HO_263005 := Ext.a (Kd.V_below (Kd.V_elderB (Ext.nV HO_263005.out) gb291 (Nat.le_of_eq hg.symm)) hb); replace HO_263006 := Ext.a (Kd.V_below (Kd.V_elderB (Ext.nV HO_263006.out) gb291 (Nat.le_of_eq hg.symm)) hb); replace HL290_0 := Ext.a (Kd.V_below (Kd.V_elderB (Ext.nV HL290_0.out) gb291 (Nat.le_of_eq hg.symm)) hb); replace HR290_0 := Ext.a (Kd.C_below (by exact Ext.nC HR290_0.out) hb); have BK291 := Ext.a (hbox); have GW291 := Ext.gw hg (below_size (Ext.s1 GE262.out HB.out)); have GE291 := Ext.gw hg (below_size (Ext.s1 GE262.out HB.out)); replace HB := Ext.a (below_step (Ext.s1 GE262.out HB.out) hb); have NB262_291 := Ext.nt hg (blk_lt BK262.out); have NB291_262 := Ext.ng hg (blk_lt BK262.out); replace BK262 := Ext.a (blk_below BK262.out hb); clear hb hbox hg; have hnb97 := NB291_262.out; have hnc97 := NB262_291.out; have hcz98_0 : w96.cell? ⟨gb291, 0, none⟩ = some (.slice none 0 0) := (blk_cell BK291.out 0).trans rfl; have hcz98_1 : w96.cell? ⟨gb291, 1, none⟩ = some (.int .i64 0) := (blk_cell BK291.out 1).trans rfl; have hfz98_0 := blk_frozen BK291.out 0; have hfz98_1 := blk_frozen BK291.out 1) | ((with_reducible refine gate_store (t := 62) (p := 11) rfl ?_); refine Ext.struct_store (hgd := ?hg) (hN := ?hn) (t := 62) (p := .tmp 11) (x := ?vo_w99) (ho := ?ho) (cells := #[.slice A290_0 ((rd_T62 l0_4 x134_1).f0).length c290_0, .int .i64 ((rd_T62 l0_4 x134_1).f1)]) (haddr := ?ha) (hx := ?hx) BK291.out rfl (by kernel_rfl) rfl ?_; (case ho => rfl); (case hg => rfl); (case hn => rfl); (case ha => rfl); (case hx => first | rfl | (go_simp; done)); intro w99 hx_ hk_ hbl_; replace HO_132 := Ext.a (Kd.V_mono (Kd.V_keep (Kd.V_mono (ok := fun k_ => (((((P0_3_ k_ ∨ P0_4_ k_ ∨ P0_5_ k_ ∨ P0_6_ k_) ∨ w.heap.size ≤ k_)) ∧ (some k_ ≠ (u5 : Value).ownBlock ∧ k_ ≠ gb262)) ∧ k_ ≠ gb291)) HO_132.out (fun k_ hk_ => (⟨hk_, hk_.2⟩ : _ ∧ k_ ≠ gb291))) hk_ (fun _ h => h.2)) (fun _ h => h.1)); replace HO_263003 := Ext.a (Kd.V_mono (Kd.V_keep (Kd.V_mono (ok := fun k_ => (((((P0_3_ k_ ∨ P0_4_ k_ ∨ P0_5_ k_ ∨ P0_6_ k_) ∨ w.heap.size ≤ k_)) ∧ (some k_ ≠ (u5 : Value).ownBlock ∧ k_ ≠ gb262)) ∧ k_ ≠ gb291)) HO_263003.out (fun k_ hk_ => (⟨hk_, hk_.2⟩ : _ ∧ k_ ≠ gb291))) hk_ (fun _ h => h.2)) (fun _ h => h.1)); replace HO_263004 := Ext.a (Kd.V_mono (Kd.V_keep (Kd.V_mono (ok := fun k_ => (((((P0_3_ k_ ∨ P0_4_ k_ ∨ P0_5_ k_ ∨ P0_6_ k_) ∨ w.heap.size ≤ k_)) ∧ (some k_ ≠ (u5 : Value).ownBlock ∧ k_ ≠ gb262)) ∧ k_ ≠ gb291)) HO_263004.out (fun k_ hk_ => (⟨hk_, hk_.2⟩ : _ ∧ k_ ≠ gb291))) hk_ (fun _ h => h.2)) (fun _ h => h.1)); replace HO_263005 := Ext.a (Kd.V_mono (Kd.V_keep (Kd.V_mono (ok := fun k_ => (((((P0_3_ k_ ∨ P0_4_ k_ ∨ P0_5_ k_ ∨ P0_6_ k_) ∨ w.heap.size ≤ k_)) ∧ (some k_ ≠ (u5 : Value).ownBlock ∧ k_ ≠ gb262)) ∧ k_ ≠ gb291)) HO_263005.out (fun k_ hk_ => (⟨hk_, hk_.2⟩ : _ ∧ k_ ≠ gb291))) hk_ (fun _ h => h.2)) (fun _ h => h.1)); replace HO_263006 := Ext.a (Kd.V_mono (Kd.V_keep (Kd.V_mono (ok := fun k_ => (((((P0_3_ k_ ∨ P0_4_ k_ ∨ P0_5_ k_ ∨ P0_6_ k_) ∨ w.heap.size ≤ k_)) ∧ (some k_ ≠ (u5 : Value).ownBlock ∧ k_ ≠ gb262)) ∧ k_ ≠ gb291)) HO_263006.out (fun k_ hk_ => (⟨hk_, hk_.2⟩ : _ ∧ k_ ≠ gb291))) hk_ (fun _ h => h.2)) (fun _ h => h.1)); replace HL290_0 := Ext.a (Kd.V_mono (Kd.V_keep (Kd.V_mono (ok := fun k_ => (((((P0_3_ k_ ∨ P0_4_ k_ ∨ P0_5_ k_ ∨ P0_6_ k_) ∨ w.heap.size ≤ k_)) ∧ (some k_ ≠ (u5 : Value).ownBlock ∧ k_ ≠ gb262)) ∧ k_ ≠ gb291)) HL290_0.out (fun k_ hk_ => (⟨hk_, hk_.2⟩ : _ ∧ k_ ≠ gb291))) hk_ (fun _ h => h.2)) (fun _ h => h.1)); replace HO_5 := Ext.a (Kd.R_mono (Kd.R_keep (Kd.R_types HO_5.out BK291.out (by decide)) hk_ (fun _ h => h.2)) (fun _ h => h.1)); replace BK262 := Ext.a (KeepBut.blk hk_ BK262.out NB262_291.out (by simp)); replace BK291 := Ext.a (hx_); replace HB := Ext.a (hbl_ _ _ HB.out GE291.out); clear hx_ hk_ hbl_))
         (try simp only [Act.put, Ext.sb, Ext.sz, Ext.ss])
         go_cut [165] (fun v165 wc => ∃ (kq : Nat) (x165_94 : Bool), v165 = .bool x165_94 ∧ Aside0 (terrierref04_room.j4 kq x5_1 (l0_4.length : Int) l0_4 (l0_4.length : Int) x134_1 x165_94 a0_0 a0_1 a0_2 l0_3 l0_4 l0_5 l0_6 ((rd_T62 l0_4 x134_1).f0) ((rd_T62 l0_4 x134_1).f1) = some (r1, r2, r3)) ∧ Aside0 (kq ≤ k1) ∧ Aside0 (Kd.R (Kd.int .u8) 5 wc w.heap.size (ok27_0 w) u5 x5_1) ∧ Aside0 (Kd.V k62 62 wc w.heap.size (fun k_ => ((P0_3_ k_ ∨ P0_4_ k_ ∨ P0_5_ k_ ∨ P0_6_ k_) ∨ w.heap.size ≤ k_) ∧ some k_ ≠ (u5 : Value).ownBlock ∧ k_ ≠ gb262 ∧ k_ ≠ gb291) (.slice (some ad290) l0_4.length c0_4) l0_4) ∧ Aside0 (Kd.V k61 61 wc w.heap.size (fun k_ => ((P0_3_ k_ ∨ P0_4_ k_ ∨ P0_5_ k_ ∨ P0_6_ k_) ∨ w.heap.size ≤ k_) ∧ some k_ ≠ (u5 : Value).ownBlock ∧ k_ ≠ gb262 ∧ k_ ≠ gb291) (.slice A0_3 l0_3.length c0_3) l0_3) ∧ Aside0 (Kd.V k62 62 wc w.heap.size (fun k_ => ((P0_3_ k_ ∨ P0_4_ k_ ∨ P0_5_ k_ ∨ P0_6_ k_) ∨ w.heap.size ≤ k_) ∧ some k_ ≠ (u5 : Value).ownBlock ∧ k_ ≠ gb262 ∧ k_ ≠ gb291) (.slice (some ad290) l0_4.length c0_4) l0_4) ∧ Aside0 (Kd.V (Kd.int .u8) 5 wc w.heap.size (fun k_ => ((P0_3_ k_ ∨ P0_4_ k_ ∨ P0_5_ k_ ∨ P0_6_ k_) ∨ w.heap.size ≤ k_) ∧ some k_ ≠ (u5 : Value).ownBlock ∧ k_ ≠ gb262 ∧ k_ ≠ gb291) (.slice A0_5 l0_5.length c0_5) l0_5) ∧ Aside0 (Kd.V (Kd.int .i64) 3 wc w.heap.size (fun k_ => ((P0_3_ k_ ∨ P0_4_ k_ ∨ P0_5_ k_ ∨ P0_6_ k_) ∨ w.heap.size ≤ k_) ∧ some k_ ≠ (u5 : Value).ownBlock ∧ k_ ≠ gb262 ∧ k_ ≠ gb291) (.slice A0_6 l0_6.length c0_6) l0_6) ∧ Aside0 (Kd.V (Kd.int .u8) 5 wc w.heap.size (fun k_ => ((P0_3_ k_ ∨ P0_4_ k_ ∨ P0_5_ k_ ∨ P0_6_ k_) ∨ w.heap.size ≤ k_) ∧ some k_ ≠ (u5 : Value).ownBlock ∧ k_ ≠ gb262 ∧ k_ ≠ gb291) (.slice A290_0 ((rd_T62 l0_4 x134_1).f0).length c290_0) ((rd_T62 l0_4 x134_1).f0)) ∧ Aside0 (wc.heap[gb262]? = some (.cells #[.int .i64 a0_0, .int .u64 a0_1, .int .i64 a0_2, (.slice A0_3 l0_3.length c0_3), (.slice (some ad290) l0_4.length c0_4), (.slice A0_5 l0_5.length c0_5), (.slice A0_6 l0_6.length c0_6)] 34 (0, 0))) ∧ Aside0 (wc.heap[gb291]? = some (.cells #[(.slice A290_0 ((rd_T62 l0_4 x134_1).f0).length c290_0), .int .i64 ((rd_T62 l0_4 x134_1).f1)] 62 (0, 0))) ∧ Aside0 (Below w.heap.size w wc))
         case first => as_aux_lemma =>
          have H := HC95.out; clear HC95
          by_cases c100 : (((rd_T62 l0_4 x134_1).f0).length : Int) > 32
          ·
           rw [if_pos c100] at H; have c100b0 := decide_eq_true c100; have c100b1 : decide (32 < ((rd_T62 l0_4 x134_1).f0).length) = true := decide_eq_true (by omega); clear c100
           (first | rw [c100b0] | (simp only [i64_w, i32_w]; rw [c100b0]) | skip)
           have H' := Aside0.mk H; clear H
           try go_wp2
           have n_ := Ext.a (show Kd.V (Kd.int .u8) 5 w99 w.heap.size (fun k_ => ((P0_3_ k_ ∨ P0_4_ k_ ∨ P0_5_ k_ ∨ P0_6_ k_) ∨ w.heap.size ≤ k_) ∧ some k_ ≠ (u5 : Value).ownBlock ∧ k_ ≠ gb262 ∧ k_ ≠ gb291) (.slice A290_0 ((rd_T62 l0_4 x134_1).f0).length c290_0) ((rd_T62 l0_4 x134_1).f0) from by (with_reducible repeat (first | apply Kd.V_alloc | apply Kd.V_drewN | apply Kd.V_drew)); exact Kd.V_mono HL290_0.out (fun _ hk => ⟨hk.1.1, ⟨hk.1.2.1, ⟨hk.1.2.2, hk.2⟩⟩⟩)); clear HL290_0; have HL290_0 := n_; clear n_; have n_ := Ext.a (show Kd.V k62 62 w99 w.heap.size (fun k_ => ((P0_3_ k_ ∨ P0_4_ k_ ∨ P0_5_ k_ ∨ P0_6_ k_) ∨ w.heap.size ≤ k_) ∧ some k_ ≠ (u5 : Value).ownBlock ∧ k_ ≠ gb262 ∧ k_ ≠ gb291) (.slice (some ad290) l0_4.length c0_4) l0_4 from by (with_reducible repeat (first | apply Kd.V_alloc | apply Kd.V_drewN | apply Kd.V_drew)); exact Kd.V_mono HO_132.out (fun _ hk => ⟨hk.1.1, ⟨hk.1.2.1, ⟨hk.1.2.2, hk.2⟩⟩⟩)); clear HO_132; have HO_132 := n_; clear n_; have n_ := Ext.a (show Kd.V k61 61 w99 w.heap.size (fun k_ => ((P0_3_ k_ ∨ P0_4_ k_ ∨ P0_5_ k_ ∨ P0_6_ k_) ∨ w.heap.size ≤ k_) ∧ some k_ ≠ (u5 : Value).ownBlock ∧ k_ ≠ gb262 ∧ k_ ≠ gb291) (.slice A0_3 l0_3.length c0_3) l0_3 from by (with_reducible repeat (first | apply Kd.V_alloc | apply Kd.V_drewN | apply Kd.V_drew)); exact Kd.V_mono HO_263003.out (fun _ hk => ⟨hk.1.1, ⟨hk.1.2.1, ⟨hk.1.2.2, hk.2⟩⟩⟩)); clear HO_263003; have HO_263003 := n_; clear n_; have n_ := Ext.a (show Kd.V k62 62 w99 w.heap.size (fun k_ => ((P0_3_ k_ ∨ P0_4_ k_ ∨ P0_5_ k_ ∨ P0_6_ k_) ∨ w.heap.size ≤ k_) ∧ some k_ ≠ (u5 : Value).ownBlock ∧ k_ ≠ gb262 ∧ k_ ≠ gb291) (.slice (some ad290) l0_4.length c0_4) l0_4 from by (with_reducible repeat (first | apply Kd.V_alloc | apply Kd.V_drewN | apply Kd.V_drew)); exact Kd.V_mono HO_263004.out (fun _ hk => ⟨hk.1.1, ⟨hk.1.2.1, ⟨hk.1.2.2, hk.2⟩⟩⟩))
           clear HO_263004; have HO_263004 := n_; clear n_; have n_ := Ext.a (show Kd.V (Kd.int .u8) 5 w99 w.heap.size (fun k_ => ((P0_3_ k_ ∨ P0_4_ k_ ∨ P0_5_ k_ ∨ P0_6_ k_) ∨ w.heap.size ≤ k_) ∧ some k_ ≠ (u5 : Value).ownBlock ∧ k_ ≠ gb262 ∧ k_ ≠ gb291) (.slice A0_5 l0_5.length c0_5) l0_5 from by (with_reducible repeat (first | apply Kd.V_alloc | apply Kd.V_drewN | apply Kd.V_drew)); exact Kd.V_mono HO_263005.out (fun _ hk => ⟨hk.1.1, ⟨hk.1.2.1, ⟨hk.1.2.2, hk.2⟩⟩⟩)); clear HO_263005; have HO_263005 := n_; clear n_; have n_ := Ext.a (show Kd.V (Kd.int .i64) 3 w99 w.heap.size (fun k_ => ((P0_3_ k_ ∨ P0_4_ k_ ∨ P0_5_ k_ ∨ P0_6_ k_) ∨ w.heap.size ≤ k_) ∧ some k_ ≠ (u5 : Value).ownBlock ∧ k_ ≠ gb262 ∧ k_ ≠ gb291) (.slice A0_6 l0_6.length c0_6) l0_6 from by (with_reducible repeat (first | apply Kd.V_alloc | apply Kd.V_drewN | apply Kd.V_drew)); exact Kd.V_mono HO_263006.out (fun _ hk => ⟨hk.1.1, ⟨hk.1.2.1, ⟨hk.1.2.2, hk.2⟩⟩⟩)); clear HO_263006; have HO_263006 := n_; clear n_; replace HO_5 := Ext.a (Kd.R_drew HO_5.out); replace HO_132 := Ext.a (Kd.V_drew HO_132.out); replace HO_263003 := Ext.a (Kd.V_drew HO_263003.out); replace HO_263004 := Ext.a (Kd.V_drew HO_263004.out); replace HO_263005 := Ext.a (Kd.V_drew HO_263005.out); replace HO_263006 := Ext.a (Kd.V_drew HO_263006.out); replace HL290_0 := Ext.a (Kd.V_drew HL290_0.out); replace BK262 := Ext.a (blk_drew BK262.out); replace BK291 := Ext.a (blk_drew BK291.out); replace HB := Ext.a (below_drew1 HB.out); refine start_ (n := 27) (S := fun w' => w'.cell? ⟨gb291, 0, none⟩ = some (.slice A290_0 ((rd_T62 l0_4 x134_1).f0).length c290_0) ∧ w'.cell? ⟨gb291, 1, none⟩ = some (.int .i64 ((rd_T62 l0_4 x134_1).f1))) (ds := []) zb27_0 (by kernel_rfl) rfl rfl ⟨(blk_cell BK291.out 0).trans rfl, (blk_cell BK291.out 1).trans rfl⟩ (fun hHeld => ?_); refine with_tabW terrierref04_room.tab25 terrierref04_room.bits25 (fun HT_ HW_ => ?_)
           generalize w99.drew = w101 at HO_5 HO_132 HO_263003 HO_263004 HO_263005 HO_263006 HL290_0 BK262 BK291 HB hHeld ⊢; refine pure_ (i := 0) (N := some 139) (v := ?_) (a' := ?_) zb27_1 rfl rfl (any_of HT_.out (by kernel_rfl)) (fun _ _ _ h => h) (Or.inl ⟨by rfl, ?_⟩) ?_ ?_; rotate_left
           · intro w'; go_simp; with_reducible rfl
           rotate_left
           · simp only [Act.put, Ext.sb, Ext.sz, Ext.ss, i64_w, i32_w]; rfl
           refine take_ (i := 1) (N := some 140) (v := ?_) (a' := ?_) zb27_2 rfl rfl (take_ofW HT_.out HW_.out (by kernel_rfl)) (fun _ _ _ h => h) (Or.inl ⟨by rfl, ?_⟩) hHeld ?_ ?_; rotate_left
           · rintro w' ⟨s0, s1⟩; go_simp; with_reducible rfl
           rotate_left
           · simp only [Act.put, Ext.sb, Ext.sz, Ext.ss, i64_w, i32_w]; rfl
           refine pure_ (i := 2) (N := some 141) (v := ?_) (a' := ?_) zb27_3 rfl rfl (any_of HT_.out (by kernel_rfl)) (fun _ _ _ h => h) (Or.inl ⟨by rfl, ?_⟩) ?_ ?_; rotate_left
           · intro w'; go_simp; with_reducible rfl
           rotate_left
           · simp only [Act.put, Ext.sb, Ext.sz, Ext.ss, i64_w, i32_w]; rfl
           refine pure_ (i := 3) (N := some 142) (v := ?_) (a' := ?_) zb27_4 rfl rfl (any_of HT_.out (by kernel_rfl)) (fun _ _ _ h => h) (Or.inl ⟨by rfl, ?_⟩) ?_ ?_; rotate_left
           · intro w'; go_simp; with_reducible rfl
           rotate_left
           · simp only [Act.put, Ext.sb, Ext.sz, Ext.ss, i64_w, i32_w]; rfl
           refine pure_ (i := 4) (N := some 143) (v := ?_) (a' := ?_) zb27_5 rfl rfl (any_of HT_.out (by kernel_rfl)) (fun _ _ _ h => h) (Or.inl ⟨by rfl, ?_⟩) ?_ ?_; rotate_left
           · intro w'; go_simp; with_reducible rfl
           rotate_left
           · simp only [Act.put, Ext.sb, Ext.sz, Ext.ss, i64_w, i32_w]; rfl
           refine pure_ (i := 5) (N := some 144) (v := undef) (a' := ?_) zb27_6 rfl rfl (any_of HT_.out (by kernel_rfl)) (fun _ _ _ h => h) (Or.inr ⟨by rfl, rfl⟩) ?_ ?_; rotate_left
           · simp only [Act.put, Ext.sb, Ext.sz, Ext.ss, i64_w, i32_w]; rfl
           refine pure_ (i := 6) (N := some 145) (v := undef) (a' := ?_) zb27_7 rfl rfl (any_of HT_.out (by kernel_rfl)) (fun _ _ _ h => h) (Or.inr ⟨by rfl, rfl⟩) ?_ ?_; rotate_left
           · simp only [Act.put, Ext.sb, Ext.sz, Ext.ss, i64_w, i32_w]; rfl
           refine pure_ (i := 7) (N := some 146) (v := undef) (a' := ?_) zb27_8 rfl rfl (any_of HT_.out (by kernel_rfl)) (fun _ _ _ h => h) (Or.inr ⟨by rfl, rfl⟩) ?_ ?_; rotate_left
           · simp only [Act.put, Ext.sb, Ext.sz, Ext.ss, i64_w, i32_w]; rfl
           refine pure_ (i := 8) (N := some 147) (v := undef) (a' := ?_) zb27_9 rfl rfl (any_of HT_.out (by kernel_rfl)) (fun _ _ _ h => h) (Or.inr ⟨by rfl, rfl⟩) ?_ ?_; rotate_left
           · simp only [Act.put, Ext.sb, Ext.sz, Ext.ss, i64_w, i32_w]; rfl
           refine pure_ (i := 9) (N := some 148) (v := ?_) (a' := ?_) zb27_10 rfl rfl (any_of HT_.out (by kernel_rfl)) (fun _ _ _ h => h) (Or.inl ⟨by rfl, ?_⟩) ?_ ?_; rotate_left
           · intro w'; go_simp; with_reducible rfl
           rotate_left
           · simp only [Act.put, Ext.sb, Ext.sz, Ext.ss, i64_w, i32_w]; rfl
           refine pure_ (i := 10) (N := some 149) (v := ?_) (a' := ?_) zb27_11 rfl rfl (any_of HT_.out (by kernel_rfl)) (fun _ _ _ h => h) (Or.inl ⟨by rfl, ?_⟩) ?_ ?_; rotate_left
           · intro w'; go_simp; with_reducible rfl
           rotate_left
           · simp only [Act.put, Ext.sb, Ext.sz, Ext.ss, i64_w, i32_w]; rfl
           refine pure_ (i := 11) (N := some 150) (v := undef) (a' := ?_) zb27_12 rfl rfl (any_of HT_.out (by kernel_rfl)) (fun _ _ _ h => h) (Or.inr ⟨by rfl, rfl⟩) ?_ ?_; rotate_left
           · simp only [Act.put, Ext.sb, Ext.sz, Ext.ss, i64_w, i32_w]; rfl
           refine pure_ (i := 12) (N := some 151) (v := undef) (a' := ?_) zb27_13 rfl rfl (any_of HT_.out (by kernel_rfl)) (fun _ _ _ h => h) (Or.inr ⟨by rfl, rfl⟩) ?_ ?_; rotate_left
           · simp only [Act.put, Ext.sb, Ext.sz, Ext.ss, i64_w, i32_w]; rfl
           refine pure_ (i := 13) (N := some 152) (v := undef) (a' := ?_) zb27_14 rfl rfl (any_of HT_.out (by kernel_rfl)) (fun _ _ _ h => h) (Or.inr ⟨by rfl, rfl⟩) ?_ ?_; rotate_left
           · simp only [Act.put, Ext.sb, Ext.sz, Ext.ss, i64_w, i32_w]; rfl
           refine pure_ (i := 14) (N := some 153) (v := undef) (a' := ?_) zb27_15 rfl rfl (any_of HT_.out (by kernel_rfl)) (fun _ _ _ h => h) (Or.inr ⟨by rfl, rfl⟩) ?_ ?_; rotate_left
           · simp only [Act.put, Ext.sb, Ext.sz, Ext.ss, i64_w, i32_w]; rfl
           refine pure_ (i := 15) (N := some 154) (v := undef) (a' := ?_) zb27_22 rfl rfl (any_of HT_.out (by kernel_rfl)) (fun _ _ _ h => h) (Or.inr ⟨by rfl, rfl⟩) ?_ ?_; rotate_left
           · simp only [Act.put, Ext.sb, Ext.sz, Ext.ss, i64_w, i32_w]; rfl
           refine pure_ (i := 16) (N := some 155) (v := undef) (a' := ?_) zb27_23 rfl rfl (any_of HT_.out (by kernel_rfl)) (fun _ _ _ h => h) (Or.inr ⟨by rfl, rfl⟩) ?_ ?_; rotate_left
           · simp only [Act.put, Ext.sb, Ext.sz, Ext.ss, i64_w, i32_w]; rfl
           refine pure_ (i := 17) (N := some 156) (v := undef) (a' := ?_) zb27_24 rfl rfl (any_of HT_.out (by kernel_rfl)) (fun _ _ _ h => h) (Or.inr ⟨by rfl, rfl⟩) ?_ ?_; rotate_left
           · simp only [Act.put, Ext.sb, Ext.sz, Ext.ss, i64_w, i32_w]; rfl
           refine pure_ (i := 18) (N := some 157) (v := undef) (a' := ?_) zb27_25 rfl rfl (any_of HT_.out (by kernel_rfl)) (fun _ _ _ h => h) (Or.inr ⟨by rfl, rfl⟩) ?_ ?_; rotate_left
           · simp only [Act.put, Ext.sb, Ext.sz, Ext.ss, i64_w, i32_w]; rfl
           refine pure_ (i := 19) (N := some 158) (v := undef) (a' := ?_) zb27_26 rfl rfl (any_of HT_.out (by kernel_rfl)) (fun _ _ _ h => h) (Or.inr ⟨by rfl, rfl⟩) ?_ ?_; rotate_left
           · simp only [Act.put, Ext.sb, Ext.sz, Ext.ss, i64_w, i32_w]; rfl
           refine pure_ (i := 20) (N := some 159) (v := undef) (a' := ?_) zb27_27 rfl rfl (any_of HT_.out (by kernel_rfl)) (fun _ _ _ h => h) (Or.inr ⟨by rfl, rfl⟩) ?_ ?_; rotate_left
           · simp only [Act.put, Ext.sb, Ext.sz, Ext.ss, i64_w, i32_w]; rfl
           refine pure_ (i := 21) (N := some 160) (v := undef) (a' := ?_) zb27_16 rfl rfl (any_of HT_.out (by kernel_rfl)) (fun _ _ _ h => h) (Or.inr ⟨by rfl, rfl⟩) ?_ ?_; rotate_left
           · simp only [Act.put, Ext.sb, Ext.sz, Ext.ss, i64_w, i32_w]; rfl
           refine pure_ (i := 22) (N := some 161) (v := undef) (a' := ?_) zb27_17 rfl rfl (any_of HT_.out (by kernel_rfl)) (fun _ _ _ h => h) (Or.inr ⟨by rfl, rfl⟩) ?_ ?_; rotate_left
           · simp only [Act.put, Ext.sb, Ext.sz, Ext.ss, i64_w, i32_w]; rfl
           refine pure_ (i := 23) (N := some 162) (v := undef) (a' := ?_) zb27_18 rfl rfl (any_of HT_.out (by kernel_rfl)) (fun _ _ _ h => h) (Or.inr ⟨by rfl, rfl⟩) ?_ ?_; rotate_left
           · simp only [Act.put, Ext.sb, Ext.sz, Ext.ss, i64_w, i32_w]; rfl
           refine pure_ (i := 24) (N := some 163) (v := undef) (a' := ?_) zb27_19 rfl rfl (any_of HT_.out (by kernel_rfl)) (fun _ _ _ h => h) (Or.inr ⟨by rfl, rfl⟩) ?_ ?_; rotate_left
           · simp only [Act.put, Ext.sb, Ext.sz, Ext.ss, i64_w, i32_w]; rfl
           refine pure_ (i := 25) (N := some 164) (v := undef) (a' := ?_) zb27_20 rfl rfl (any_of HT_.out (by kernel_rfl)) (fun _ _ _ h => h) (Or.inr ⟨by rfl, rfl⟩) ?_ ?_; rotate_left
           · simp only [Act.put, Ext.sb, Ext.sz, Ext.ss, i64_w, i32_w]; rfl
           refine pure_ (i := 26) (N := some 165) (v := ?_) (a' := ?_) zb27_21 rfl rfl (any_of HT_.out (by kernel_rfl)) (fun _ _ _ h => h) (Or.inl ⟨by rfl, ?_⟩) ?_ ?_; rotate_left
           · intro w'; go_simp; with_reducible rfl
           rotate_left
           · simp only [Act.put, Ext.sb, Ext.sz, Ext.ss, i64_w, i32_w]; rfl
           refine done_ (done_of HT_.out (by kernel_rfl)) ?_
           try go_wp2
           go_meet
           case rel => exact ⟨_, (true), (by first | rfl | (simp; done) | (simp [*]; done)), H', ⟨by have := HK1.out; first | omega | exact Nat.le_refl _⟩, ⟨by exact Ext.nR HO_5.out⟩, ⟨by (with_reducible repeat (first | apply Kd.V_alloc | apply Kd.V_drewN | apply Kd.V_drew)); exact HO_132.out⟩, ⟨by (with_reducible repeat (first | apply Kd.V_alloc | apply Kd.V_drewN | apply Kd.V_drew)); exact HO_263003.out⟩, ⟨by (with_reducible repeat (first | apply Kd.V_alloc | apply Kd.V_drewN | apply Kd.V_drew)); exact HO_263004.out⟩, ⟨by (with_reducible repeat (first | apply Kd.V_alloc | apply Kd.V_drewN | apply Kd.V_drew)); exact HO_263005.out⟩, ⟨by (with_reducible repeat (first | apply Kd.V_alloc | apply Kd.V_drewN | apply Kd.V_drew)); exact HO_263006.out⟩, ⟨by (with_reducible repeat (first | apply Kd.V_alloc | apply Kd.V_drewN | apply Kd.V_drew)); exact HL290_0.out⟩, ⟨by exact BK262.out⟩, ⟨by exact BK291.out⟩, ⟨by exact Ext.s2 GE262.out GE291.out HB.out⟩⟩
          ·
           rw [if_neg c100] at H; have c100b0 := decide_eq_false c100; have c100b1 : decide (32 < ((rd_T62 l0_4 x134_1).f0).length) = false := decide_eq_false (by omega); clear c100
           (first | rw [c100b0] | (simp only [i64_w, i32_w]; rw [c100b0]) | skip)
           replace H := Option.bind_eq_some_iff.mp H; obtain ⟨t292, A1020, H⟩ := H; (try dsimp only at H); have A102 := Aside0.mk A1020; clear A1020
           by_cases c103 : t292 = true
           ·
            subst c103; rw [if_pos rfl] at H
            by_cases c104 : x134_1 > 0
            ·
             rw [if_pos c104] at H; have c104b0 := decide_eq_true c104; clear c104; obtain ⟨ji105, hji105⟩ : ∃ j_ : Int, (wrap64 (x134_1 - 1)) = j_ := ⟨_, rfl⟩
             replace H : (if 0 ≤ (ji105) then (if (ji105) < (l0_4.length : Int) then ((terrierref01_Ahead.f k1 ((rd_T62 l0_4 (ji105)).f0) ((rd_T62 l0_4 x134_1).f0)).bind fun t294 => (terrierref04_room.j4 k1 x5_1 (l0_4.length : Int) l0_4 (l0_4.length : Int) x134_1 (!t294) a0_0 a0_1 a0_2 l0_3 l0_4 l0_5 l0_6 ((rd_T62 l0_4 x134_1).f0) ((rd_T62 l0_4 x134_1).f1))) else (none)) else (none)) = some (r1, r2, r3) := by first | (rw [hji105] at H; exact H) | (simp only [hji105] at H ⊢; exact H)
             (try rw [hji105] at A102); have hji105w : (IntKind.i64.wrap (x134_1 - 1)) = ji105 := (i64_w _).trans hji105
             by_cases c106 : 0 ≤ (ji105)
             ·
              rw [if_pos c106] at H; have c106b0 := decide_eq_true c106; clear c106
              by_cases c107 : (ji105) < (l0_4.length : Int)
              ·
               rw [if_pos c107] at H; have c107b0 := decide_eq_true c107; clear c107; replace H := Option.bind_eq_some_iff.mp H; obtain ⟨t294, A1080, H⟩ := H; (try dsimp only at H); have A108 := Aside0.mk A1080; clear A1080; have H' := Aside0.mk H; clear H
               try go_wp2
               have n_ := Ext.a (show Kd.V (Kd.int .u8) 5 w99 w.heap.size (fun k_ => ((P0_3_ k_ ∨ P0_4_ k_ ∨ P0_5_ k_ ∨ P0_6_ k_) ∨ w.heap.size ≤ k_) ∧ some k_ ≠ (u5 : Value).ownBlock ∧ k_ ≠ gb262 ∧ k_ ≠ gb291) (.slice A290_0 ((rd_T62 l0_4 x134_1).f0).length c290_0) ((rd_T62 l0_4 x134_1).f0) from by (with_reducible repeat (first | apply Kd.V_alloc | apply Kd.V_drewN | apply Kd.V_drew)); exact Kd.V_mono HL290_0.out (fun _ hk => ⟨hk.1.1, ⟨hk.1.2.1, ⟨hk.1.2.2, hk.2⟩⟩⟩)); clear HL290_0; have HL290_0 := n_; clear n_; have n_ := Ext.a (show Kd.V k62 62 w99 w.heap.size (fun k_ => ((P0_3_ k_ ∨ P0_4_ k_ ∨ P0_5_ k_ ∨ P0_6_ k_) ∨ w.heap.size ≤ k_) ∧ some k_ ≠ (u5 : Value).ownBlock ∧ k_ ≠ gb262 ∧ k_ ≠ gb291) (.slice (some ad290) l0_4.length c0_4) l0_4 from by (with_reducible repeat (first | apply Kd.V_alloc | apply Kd.V_drewN | apply Kd.V_drew)); exact Kd.V_mono HO_132.out (fun _ hk => ⟨hk.1.1, ⟨hk.1.2.1, ⟨hk.1.2.2, hk.2⟩⟩⟩)); clear HO_132; have HO_132 := n_; clear n_; have n_ := Ext.a (show Kd.V k61 61 w99 w.heap.size (fun k_ => ((P0_3_ k_ ∨ P0_4_ k_ ∨ P0_5_ k_ ∨ P0_6_ k_) ∨ w.heap.size ≤ k_) ∧ some k_ ≠ (u5 : Value).ownBlock ∧ k_ ≠ gb262 ∧ k_ ≠ gb291) (.slice A0_3 l0_3.length c0_3) l0_3 from by (with_reducible repeat (first | apply Kd.V_alloc | apply Kd.V_drewN | apply Kd.V_drew)); exact Kd.V_mono HO_263003.out (fun _ hk => ⟨hk.1.1, ⟨hk.1.2.1, ⟨hk.1.2.2, hk.2⟩⟩⟩)); clear HO_263003; have HO_263003 := n_; clear n_; have n_ := Ext.a (show Kd.V k62 62 w99 w.heap.size (fun k_ => ((P0_3_ k_ ∨ P0_4_ k_ ∨ P0_5_ k_ ∨ P0_6_ k_) ∨ w.heap.size ≤ k_) ∧ some k_ ≠ (u5 : Value).ownBlock ∧ k_ ≠ gb262 ∧ k_ ≠ gb291) (.slice (some ad290) l0_4.length c0_4) l0_4 from by (with_reducible repeat (first | apply Kd.V_alloc | apply Kd.V_drewN | apply Kd.V_drew)); exact Kd.V_mono HO_263004.out (fun _ hk => ⟨hk.1.1, ⟨hk.1.2.1, ⟨hk.1.2.2, hk.2⟩⟩⟩))
               clear HO_263004; have HO_263004 := n_; clear n_; have n_ := Ext.a (show Kd.V (Kd.int .u8) 5 w99 w.heap.size (fun k_ => ((P0_3_ k_ ∨ P0_4_ k_ ∨ P0_5_ k_ ∨ P0_6_ k_) ∨ w.heap.size ≤ k_) ∧ some k_ ≠ (u5 : Value).ownBlock ∧ k_ ≠ gb262 ∧ k_ ≠ gb291) (.slice A0_5 l0_5.length c0_5) l0_5 from by (with_reducible repeat (first | apply Kd.V_alloc | apply Kd.V_drewN | apply Kd.V_drew)); exact Kd.V_mono HO_263005.out (fun _ hk => ⟨hk.1.1, ⟨hk.1.2.1, ⟨hk.1.2.2, hk.2⟩⟩⟩)); clear HO_263005; have HO_263005 := n_; clear n_; have n_ := Ext.a (show Kd.V (Kd.int .i64) 3 w99 w.heap.size (fun k_ => ((P0_3_ k_ ∨ P0_4_ k_ ∨ P0_5_ k_ ∨ P0_6_ k_) ∨ w.heap.size ≤ k_) ∧ some k_ ≠ (u5 : Value).ownBlock ∧ k_ ≠ gb262 ∧ k_ ≠ gb291) (.slice A0_6 l0_6.length c0_6) l0_6 from by (with_reducible repeat (first | apply Kd.V_alloc | apply Kd.V_drewN | apply Kd.V_drew)); exact Kd.V_mono HO_263006.out (fun _ hk => ⟨hk.1.1, ⟨hk.1.2.1, ⟨hk.1.2.2, hk.2⟩⟩⟩)); clear HO_263006; have HO_263006 := n_; clear n_; replace HO_5 := Ext.a (Kd.R_drew HO_5.out); replace HO_132 := Ext.a (Kd.V_drew HO_132.out); replace HO_263003 := Ext.a (Kd.V_drew HO_263003.out); replace HO_263004 := Ext.a (Kd.V_drew HO_263004.out); replace HO_263005 := Ext.a (Kd.V_drew HO_263005.out); replace HO_263006 := Ext.a (Kd.V_drew HO_263006.out); replace HL290_0 := Ext.a (Kd.V_drew HL290_0.out); replace BK262 := Ext.a (blk_drew BK262.out); replace BK291 := Ext.a (blk_drew BK291.out); replace HB := Ext.a (below_drew1 HB.out); have p293 : 0 ≤ ((ji105) : Int) := of_decide_eq_true (by first | (with_reducible assumption) | assumption)
               have q293 : (ji105) < (l0_4.length : Int) := of_decide_eq_true (by first | (with_reducible assumption) | assumption); obtain ⟨ad293, A293_0, c293_0, e293, hx293_0, hx293_1, hl293_0, hi293_0⟩ := at_T62 (Kd.V_reads' HO_263004.out).2.2 (ji105) p293 q293; obtain rfl : ad290 = ad293 := (by injection e293); obtain ⟨ce293, hce293, hMe293, hcc293⟩ := Kd.V_get HO_263004.out z62 (ji105) p293 (by first | exact q293 | exact of_decide_eq_true (by first | (with_reducible assumption) | assumption) | (have e_ := (Kd.V_reads' HO_263004.out).1; omega)); obtain ⟨ua293_0, uc293_0, rfl, ul293_0, ge293_0⟩ := k62_openF hMe293; have hv293_0 := hcc293 0 _ rfl; rw [Nat.add_zero] at hv293_0; replace hv293_0 := Option.some.inj (hv293_0.symm.trans hx293_0)
               injection hv293_0 with hva_ hvn_ hvc_
               rw [hva_] at ge293_0; rw [hvc_] at ul293_0; have HL293_0 := Ext.a (show Kd.V (Kd.int .u8) 5 _ w.heap.size _ _ ((rd_T62 l0_4 (ji105)).f0) from Kd.V_mk ul293_0 ge293_0); clear hva_ hvn_ hvc_ ge293_0 ul293_0; clear hcc293 hce293; have HR293_0 := Aside0.mk hi293_0; have HC293_0 := Aside0.mk hl293_0; clear hi293_0 hl293_0; replace p293 := eq_true p293; replace q293 := eq_true q293; refine start_ (n := 27) (S := fun w' => w'.cell? ⟨gb291, 0, none⟩ = some (.slice A290_0 ((rd_T62 l0_4 x134_1).f0).length c290_0) ∧ w'.cell? ⟨gb291, 1, none⟩ = some (.int .i64 ((rd_T62 l0_4 x134_1).f1)) ∧ w'.cell? ⟨gb262, 0, none⟩ = some (.int .i64 a0_0) ∧ w'.cell? ⟨gb262, 1, none⟩ = some (.int .u64 a0_1) ∧ w'.cell? ⟨gb262, 2, none⟩ = some (.int .i64 a0_2) ∧ w'.cell? ⟨gb262, 3, none⟩ = some (.slice A0_3 l0_3.length c0_3) ∧ w'.cell? ⟨gb262, 4, none⟩ = some (.slice (some ad290) l0_4.length c0_4) ∧ w'.cell? ⟨gb262, 5, none⟩ = some (.slice A0_5 l0_5.length c0_5) ∧ w'.cell? ⟨gb262, 6, none⟩ = some (.slice A0_6 l0_6.length c0_6) ∧ w'.cell? (ad290.add (((ji105)).toNat * 2)) = some (.slice A293_0 ((rd_T62 l0_4 (ji105)).f0).length c293_0) ∧ w'.cell? ⟨(ad290.add (((ji105)).toNat * 2)).block, (ad290.add (((ji105)).toNat * 2)).off + 1, none⟩ = some (.int .i64 ((rd_T62 l0_4 (ji105)).f1))) (ds := []) zb27_0 (by kernel_rfl) rfl rfl ⟨(blk_cell BK291.out 0).trans rfl, (blk_cell BK291.out 1).trans rfl, (blk_cell BK262.out 0).trans rfl, (blk_cell BK262.out 1).trans rfl, (blk_cell BK262.out 2).trans rfl, (blk_cell BK262.out 3).trans rfl, (blk_cell BK262.out 4).trans rfl, (blk_cell BK262.out 5).trans rfl, (blk_cell BK262.out 6).trans rfl, hx293_0, hx293_1⟩ (fun hHeld => ?_); refine with_tabW terrierref04_room.tab25 terrierref04_room.bits25 (fun HT_ HW_ => ?_)
               generalize w99.drew = w109 at HO_5 HO_132 HO_263003 HO_263004 HO_263005 HO_263006 HL290_0 BK262 BK291 HB HL293_0 HR293_0 hx293_0 hx293_1 hHeld ⊢; refine pure_ (i := 0) (N := some 139) (v := ?_) (a' := ?_) zb27_1 rfl rfl (any_of HT_.out (by kernel_rfl)) (fun _ _ _ h => h) (Or.inl ⟨by rfl, ?_⟩) ?_ ?_; rotate_left
               · intro w'; go_simp; with_reducible rfl
               rotate_left
               · simp only [Act.put, Ext.sb, Ext.sz, Ext.ss, i64_w, i32_w]; rfl
               refine take_ (i := 1) (N := some 140) (v := ?_) (a' := ?_) zb27_2 rfl rfl (take_ofW HT_.out HW_.out (by kernel_rfl)) (fun _ _ _ h => h) (Or.inl ⟨by rfl, ?_⟩) hHeld ?_ ?_; rotate_left
               · rintro w' ⟨s0, s1, s2, s3, s4, s5, s6, s7, s8, s9, s10⟩; go_simp; with_reducible rfl
               rotate_left
               · simp only [Act.put, Ext.sb, Ext.sz, Ext.ss, i64_w, i32_w]; rfl
               refine pure_ (i := 2) (N := some 141) (v := ?_) (a' := ?_) zb27_3 rfl rfl (any_of HT_.out (by kernel_rfl)) (fun _ _ _ h => h) (Or.inl ⟨by rfl, ?_⟩) ?_ ?_; rotate_left
               · intro w'; go_simp; with_reducible rfl
               rotate_left
               · simp only [Act.put, Ext.sb, Ext.sz, Ext.ss, i64_w, i32_w]; rfl
               refine pure_ (i := 3) (N := some 142) (v := ?_) (a' := ?_) zb27_4 rfl rfl (any_of HT_.out (by kernel_rfl)) (fun _ _ _ h => h) (Or.inl ⟨by rfl, ?_⟩) ?_ ?_; rotate_left
               · intro w'; go_simp; with_reducible rfl
               rotate_left
               · simp only [Act.put, Ext.sb, Ext.sz, Ext.ss, i64_w, i32_w]; rfl
               refine pure_ (i := 4) (N := some 143) (v := ?_) (a' := ?_) zb27_5 rfl rfl (any_of HT_.out (by kernel_rfl)) (fun _ _ _ h => h) (Or.inl ⟨by rfl, ?_⟩) ?_ ?_; rotate_left
               · intro w'; go_simp; with_reducible rfl
               rotate_left
               · simp only [Act.put, Ext.sb, Ext.sz, Ext.ss, i64_w, i32_w]; rfl
               refine pure_ (i := 5) (N := some 144) (v := ?_) (a' := ?_) zb27_6 rfl rfl (any_of HT_.out (by kernel_rfl)) (fun _ _ _ h => h) (Or.inl ⟨by rfl, ?_⟩) ?_ ?_; rotate_left
               · intro w'; go_simp; with_reducible rfl
               rotate_left
               · simp only [Act.put, Ext.sb, Ext.sz, Ext.ss, i64_w, i32_w]; rfl
               refine take_ (i := 6) (N := some 145) (v := ?_) (a' := ?_) zb27_7 rfl rfl (take_ofW HT_.out HW_.out (by kernel_rfl)) (fun _ _ _ h => h) (Or.inl ⟨by rfl, ?_⟩) hHeld ?_ ?_; rotate_left
               · rintro w' ⟨s0, s1, s2, s3, s4, s5, s6, s7, s8, s9, s10⟩; go_simp; with_reducible rfl
               rotate_left
               · simp only [Act.put, Ext.sb, Ext.sz, Ext.ss, i64_w, i32_w]; rfl
               refine one_ (i := 7) (N := some 146) zb27_8 rfl rfl (one_of HT_.out (by kernel_rfl)) (by decide) (fun K hK => ?_); refine goes_ Try.func44 (by kernel_rfl) rfl #[.int .i64 ((rd_T62 l0_4 x134_1).f1)] (by rfl) rfl rfl (by (try simp only [List.map_toArray, List.map_cons, List.map_nil]); first | done | rfl | (simp only [List.length_drop, List.length_take]; rfl)) ?_
               with_reducible refine (terrierref04_id.calls ((rd_T62 l0_4 x134_1).f1) true _ A102.out).mono ?_
               rintro e w' ⟨rfl, ⟨nd, rfl⟩⟩; refine ⟨_, rfl, ?_⟩; refine hK.out _ _ ⟨(blk_cell BK291.out 0).trans rfl, (blk_cell BK291.out 1).trans rfl, (blk_cell BK262.out 0).trans rfl, (blk_cell BK262.out 1).trans rfl, (blk_cell BK262.out 2).trans rfl, (blk_cell BK262.out 3).trans rfl, (blk_cell BK262.out 4).trans rfl, (blk_cell BK262.out 5).trans rfl, (blk_cell BK262.out 6).trans rfl, hHeld.2.2.2.2.2.2.2.2.2.1, hHeld.2.2.2.2.2.2.2.2.2.2⟩ (fun hHeld => ?_); clear hK K; refine norm_ (a' := ?_) ?_ ?_; rotate_left
               · show Act.put _ (some 146) _ = _; simp only [Act.put, Ext.sb, Ext.sz, Ext.ss, i64_w, i32_w]; rfl
               refine pure_ (i := 8) (N := some 147) (v := ?_) (a' := ?_) zb27_9 rfl rfl (any_of HT_.out (by kernel_rfl)) (fun _ _ _ h => h) (Or.inl ⟨by rfl, ?_⟩) ?_ ?_; rotate_left
               · intro w'; go_simp; with_reducible rfl
               rotate_left
               · simp only [Act.put, Ext.sb, Ext.sz, Ext.ss, i64_w, i32_w]; rfl
               refine pure_ (i := 9) (N := some 148) (v := ?_) (a' := ?_) zb27_10 rfl rfl (any_of HT_.out (by kernel_rfl)) (fun _ _ _ h => h) (Or.inl ⟨by rfl, ?_⟩) ?_ ?_; rotate_left
               · intro w'; go_simp; with_reducible rfl
               rotate_left
               · simp only [Act.put, Ext.sb, Ext.sz, Ext.ss, i64_w, i32_w]; rfl
               refine pure_ (i := 10) (N := some 149) (v := ?_) (a' := ?_) zb27_11 rfl rfl (any_of HT_.out (by kernel_rfl)) (fun _ _ _ h => h) (Or.inl ⟨by rfl, ?_⟩) ?_ ?_; rotate_left
               · intro w'; go_simp; with_reducible rfl
               rotate_left
               · simp only [Act.put, Ext.sb, Ext.sz, Ext.ss, i64_w, i32_w]; rfl
               refine pure_ (i := 11) (N := some 150) (v := ?_) (a' := ?_) zb27_12 rfl rfl (any_of HT_.out (by kernel_rfl)) (fun _ _ _ h => h) (Or.inl ⟨by rfl, ?_⟩) ?_ ?_; rotate_left
               · intro w'; go_simp; with_reducible rfl
               rotate_left
               · simp only [Act.put, Ext.sb, Ext.sz, Ext.ss, i64_w, i32_w]; rfl
               refine pure_ (i := 12) (N := some 151) (v := ?_) (a' := ?_) zb27_13 rfl rfl (any_of HT_.out (by kernel_rfl)) (fun _ _ _ h => h) (Or.inl ⟨by rfl, ?_⟩) ?_ ?_; rotate_left
               · intro w'; go_simp; with_reducible rfl
               rotate_left
               · simp only [Act.put, Ext.sb, Ext.sz, Ext.ss, i64_w, i32_w]; rfl
               refine pure_ (i := 13) (N := some 152) (v := ?_) (a' := ?_) zb27_14 rfl rfl (any_of HT_.out (by kernel_rfl)) (fun _ _ _ h => h) (Or.inl ⟨by rfl, ?_⟩) ?_ ?_; rotate_left
               · intro w'; go_simp; with_reducible rfl
               rotate_left
               · simp only [Act.put, Ext.sb, Ext.sz, Ext.ss, i64_w, i32_w]; rfl
               refine pure_ (i := 14) (N := some 153) (v := ?_) (a' := ?_) zb27_15 rfl rfl (any_of HT_.out (by kernel_rfl)) (fun _ _ _ h => h) (Or.inl ⟨by rfl, ?_⟩) ?_ ?_; rotate_left
               · intro w'; go_simp; with_reducible rfl
               rotate_left
               · simp only [Act.put, Ext.sb, Ext.sz, Ext.ss, i64_w, i32_w]; rfl
               refine pure_ (i := 16) (N := some 155) (v := ?_) (a' := ?_) #[true, true, true, true, true, true, true, true, true, true, true, true, true, true, true, false, true, false, false, false, false, false, false, false, false, false, false] rfl rfl (any_of HT_.out (by kernel_rfl)) (fun _ _ _ h => h) (Or.inl ⟨by rfl, ?_⟩) ?_ ?_; rotate_left
               · intro w'; go_simp; with_reducible rfl
               rotate_left
               · simp only [Act.put, Ext.sb, Ext.sz, Ext.ss, i64_w, i32_w]; rfl
               refine pure_ (i := 17) (N := some 156) (v := ?_) (a' := ?_) #[true, true, true, true, true, true, true, true, true, true, true, true, true, true, true, false, true, true, false, false, false, false, false, false, false, false, false] rfl rfl (any_of HT_.out (by kernel_rfl)) (fun _ _ _ h => h) (Or.inl ⟨by rfl, ?_⟩) ?_ ?_; rotate_left
               · intro w'; go_simp; with_reducible rfl
               rotate_left
               · simp only [Act.put, Ext.sb, Ext.sz, Ext.ss, i64_w, i32_w]; rfl
               refine pure_ (i := 21) (N := some 160) (v := ?_) (a' := ?_) #[true, true, true, true, true, true, true, true, true, true, true, true, true, true, true, false, true, true, false, false, false, true, false, false, false, false, false] rfl rfl (any_of HT_.out (by kernel_rfl)) (fun _ _ _ h => h) (Or.inl ⟨by rfl, ?_⟩) ?_ ?_; rotate_left
               · intro w'; go_simp; with_reducible rfl
               rotate_left
               · simp only [Act.put, Ext.sb, Ext.sz, Ext.ss, i64_w, i32_w]; rfl
               refine take_ (i := 15) (N := some 154) (v := ?_) (a' := ?_) #[true, true, true, true, true, true, true, true, true, true, true, true, true, true, true, true, true, true, false, false, false, true, false, false, false, false, false] rfl rfl (take_ofW HT_.out HW_.out (by kernel_rfl)) (fun _ _ _ h => h) (Or.inl ⟨by rfl, ?_⟩) hHeld ?_ ?_; rotate_left
               · rintro w' ⟨s0, s1, s2, s3, s4, s5, s6, s7, s8, s9, s10⟩; go_simp; with_reducible rfl
               rotate_left
               · simp only [Act.put, Ext.sb, Ext.sz, Ext.ss, i64_w, i32_w]; rfl
               refine pure_ (i := 18) (N := some 157) (v := ?_) (a' := ?_) #[true, true, true, true, true, true, true, true, true, true, true, true, true, true, true, true, true, true, true, false, false, true, false, false, false, false, false] rfl rfl (any_of HT_.out (by kernel_rfl)) (fun _ _ _ h => h) (Or.inl ⟨by rfl, ?_⟩) ?_ ?_; rotate_left
               · intro w'; go_simp; with_reducible rfl
               rotate_left
               · simp only [Act.put, Ext.sb, Ext.sz, Ext.ss, i64_w, i32_w]; rfl
               refine pure_ (i := 19) (N := some 158) (v := ?_) (a' := ?_) #[true, true, true, true, true, true, true, true, true, true, true, true, true, true, true, true, true, true, true, true, false, true, false, false, false, false, false] rfl rfl (any_of HT_.out (by kernel_rfl)) (fun _ _ _ h => h) (Or.inl ⟨by rfl, ?_⟩) ?_ ?_; rotate_left
               · intro w'; go_simp; with_reducible rfl
               rotate_left
               · simp only [Act.put, Ext.sb, Ext.sz, Ext.ss, i64_w, i32_w]; rfl
               refine take_ (i := 20) (N := some 159) (v := ?_) (a' := ?_) zb27_16 rfl rfl (take_ofW HT_.out HW_.out (by kernel_rfl)) (fun _ _ _ h => h) (Or.inl ⟨by rfl, ?_⟩) hHeld ?_ ?_; rotate_left
               · rintro w' ⟨s0, s1, s2, s3, s4, s5, s6, s7, s8, s9, s10⟩; go_simp; with_reducible rfl
               rotate_left
               · simp only [Act.put, Ext.sb, Ext.sz, Ext.ss, i64_w, i32_w]; rfl
               refine take_ (i := 22) (N := some 161) (v := ?_) (a' := ?_) zb27_17 rfl rfl (take_ofW HT_.out HW_.out (by kernel_rfl)) (fun _ _ _ h => h) (Or.inl ⟨by rfl, ?_⟩) hHeld ?_ ?_; rotate_left
               · rintro w' ⟨s0, s1, s2, s3, s4, s5, s6, s7, s8, s9, s10⟩; go_simp; with_reducible rfl
               rotate_left
               · simp only [Act.put, Ext.sb, Ext.sz, Ext.ss, i64_w, i32_w]; rfl
               refine one_ (i := 23) (N := some 162) zb27_18 rfl rfl (one_of HT_.out (by kernel_rfl)) (by decide) (fun K hK => ?_); refine goes_ Try.func45 (by kernel_rfl) rfl #[.slice A293_0 ((rd_T62 l0_4 (ji105)).f0).length c293_0, .slice A290_0 ((rd_T62 l0_4 x134_1).f0).length c290_0] (by rfl) rfl rfl (by (try simp only [List.map_toArray, List.map_cons, List.map_nil]); first | done | (simp only [hji105]; rfl) | rfl | (simp only [List.length_drop, List.length_take]; rfl)) ?_
               with_reducible refine (terrierref01_Ahead.calls k1 _ _ ((rd_T62 l0_4 (ji105)).f0) _ _ ((rd_T62 l0_4 x134_1).f0) t294 _ ?side1 ?side2 ?side3 ?side4 A108.out).mono ?_
               (case side1 => repeat (first | exact (by exact Ext.nC HR293_0.out) | (with_reducible refine Kd.C_alloc ?_ _) | (with_reducible refine Kd.C_drewN ?_ _) | (with_reducible refine Kd.C_drew ?_)))
               (case side2 => exact HC293_0.out)
               (case side3 => repeat (first | exact ((Kd.V_reads' (Ext.nV HL290_0.out)).2.2) | (with_reducible refine Kd.C_alloc ?_ _) | (with_reducible refine Kd.C_drewN ?_ _) | (with_reducible refine Kd.C_drew ?_)))
               (case side4 => exact HC290_0.out)
               rintro e w' ⟨rfl, ⟨nd, rfl⟩⟩; refine ⟨_, rfl, ?_⟩; refine hK.out _ _ ⟨(blk_cell BK291.out 0).trans rfl, (blk_cell BK291.out 1).trans rfl, (blk_cell BK262.out 0).trans rfl, (blk_cell BK262.out 1).trans rfl, (blk_cell BK262.out 2).trans rfl, (blk_cell BK262.out 3).trans rfl, (blk_cell BK262.out 4).trans rfl, (blk_cell BK262.out 5).trans rfl, (blk_cell BK262.out 6).trans rfl, hHeld.2.2.2.2.2.2.2.2.2.1, hHeld.2.2.2.2.2.2.2.2.2.2⟩ (fun hHeld => ?_); clear hK K; refine norm_ (a' := ?_) ?_ ?_; rotate_left
               · show Act.put _ (some 162) _ = _; simp only [Act.put, Ext.sb, Ext.sz, Ext.ss, i64_w, i32_w]; rfl
               refine pure_ (i := 24) (N := some 163) (v := ?_) (a' := ?_) zb27_19 rfl rfl (any_of HT_.out (by kernel_rfl)) (fun _ _ _ h => h) (Or.inl ⟨by rfl, ?_⟩) ?_ ?_; rotate_left
               · intro w'; go_simp; with_reducible rfl
               rotate_left
               · simp only [Act.put, Ext.sb, Ext.sz, Ext.ss, i64_w, i32_w]; rfl
               refine pure_ (i := 25) (N := some 164) (v := ?_) (a' := ?_) zb27_20 rfl rfl (any_of HT_.out (by kernel_rfl)) (fun _ _ _ h => h) (Or.inl ⟨by rfl, ?_⟩) ?_ ?_; rotate_left
               · intro w'; go_simp; with_reducible rfl
               rotate_left
               · simp only [Act.put, Ext.sb, Ext.sz, Ext.ss, i64_w, i32_w]; rfl
               refine pure_ (i := 26) (N := some 165) (v := ?_) (a' := ?_) zb27_21 rfl rfl (any_of HT_.out (by kernel_rfl)) (fun _ _ _ h => h) (Or.inl ⟨by rfl, ?_⟩) ?_ ?_; rotate_left
               · intro w'; go_simp; with_reducible rfl
               rotate_left
               · simp only [Act.put, Ext.sb, Ext.sz, Ext.ss, i64_w, i32_w]; rfl
               refine done_ (done_of HT_.out (by kernel_rfl)) ?_
               try go_wp2
               go_meet
               case rel => exact ⟨_, (!t294), (by first | rfl | (simp; done) | (simp [*]; done)), H', ⟨by have := HK1.out; first | omega | exact Nat.le_refl _⟩, ⟨by exact Ext.nR HO_5.out⟩, ⟨by (with_reducible repeat (first | apply Kd.V_alloc | apply Kd.V_drewN | apply Kd.V_drew)); exact HO_132.out⟩, ⟨by (with_reducible repeat (first | apply Kd.V_alloc | apply Kd.V_drewN | apply Kd.V_drew)); exact HO_263003.out⟩, ⟨by (with_reducible repeat (first | apply Kd.V_alloc | apply Kd.V_drewN | apply Kd.V_drew)); exact HO_263004.out⟩, ⟨by (with_reducible repeat (first | apply Kd.V_alloc | apply Kd.V_drewN | apply Kd.V_drew)); exact HO_263005.out⟩, ⟨by (with_reducible repeat (first | apply Kd.V_alloc | apply Kd.V_drewN | apply Kd.V_drew)); exact HO_263006.out⟩, ⟨by (with_reducible repeat (first | apply Kd.V_alloc | apply Kd.V_drewN | apply Kd.V_drew)); exact HL290_0.out⟩, ⟨by (with_reducible repeat (first | refine blk_drewN ?_ _ | refine blk_drew ?_ | refine blk_alloc ?_ _)); exact BK262.out⟩, ⟨by (with_reducible repeat (first | refine blk_drewN ?_ _ | refine blk_drew ?_ | refine blk_alloc ?_ _)); exact BK291.out⟩, ⟨by exact Ext.s2 GE262.out GE291.out HB.out⟩⟩
              · rw [if_neg c107] at H; exact absurd H (by simp)
             · rw [if_neg c106] at H; exact absurd H (by simp)
            ·
             rw [if_neg c104] at H; have c104b0 := decide_eq_false c104; clear c104; have H' := Aside0.mk H; clear H
             try go_wp2
             have n_ := Ext.a (show Kd.V (Kd.int .u8) 5 w99 w.heap.size (fun k_ => ((P0_3_ k_ ∨ P0_4_ k_ ∨ P0_5_ k_ ∨ P0_6_ k_) ∨ w.heap.size ≤ k_) ∧ some k_ ≠ (u5 : Value).ownBlock ∧ k_ ≠ gb262 ∧ k_ ≠ gb291) (.slice A290_0 ((rd_T62 l0_4 x134_1).f0).length c290_0) ((rd_T62 l0_4 x134_1).f0) from by (with_reducible repeat (first | apply Kd.V_alloc | apply Kd.V_drewN | apply Kd.V_drew)); exact Kd.V_mono HL290_0.out (fun _ hk => ⟨hk.1.1, ⟨hk.1.2.1, ⟨hk.1.2.2, hk.2⟩⟩⟩)); clear HL290_0; have HL290_0 := n_; clear n_; have n_ := Ext.a (show Kd.V k62 62 w99 w.heap.size (fun k_ => ((P0_3_ k_ ∨ P0_4_ k_ ∨ P0_5_ k_ ∨ P0_6_ k_) ∨ w.heap.size ≤ k_) ∧ some k_ ≠ (u5 : Value).ownBlock ∧ k_ ≠ gb262 ∧ k_ ≠ gb291) (.slice (some ad290) l0_4.length c0_4) l0_4 from by (with_reducible repeat (first | apply Kd.V_alloc | apply Kd.V_drewN | apply Kd.V_drew)); exact Kd.V_mono HO_132.out (fun _ hk => ⟨hk.1.1, ⟨hk.1.2.1, ⟨hk.1.2.2, hk.2⟩⟩⟩)); clear HO_132; have HO_132 := n_; clear n_; have n_ := Ext.a (show Kd.V k61 61 w99 w.heap.size (fun k_ => ((P0_3_ k_ ∨ P0_4_ k_ ∨ P0_5_ k_ ∨ P0_6_ k_) ∨ w.heap.size ≤ k_) ∧ some k_ ≠ (u5 : Value).ownBlock ∧ k_ ≠ gb262 ∧ k_ ≠ gb291) (.slice A0_3 l0_3.length c0_3) l0_3 from by (with_reducible repeat (first | apply Kd.V_alloc | apply Kd.V_drewN | apply Kd.V_drew)); exact Kd.V_mono HO_263003.out (fun _ hk => ⟨hk.1.1, ⟨hk.1.2.1, ⟨hk.1.2.2, hk.2⟩⟩⟩)); clear HO_263003; have HO_263003 := n_; clear n_; have n_ := Ext.a (show Kd.V k62 62 w99 w.heap.size (fun k_ => ((P0_3_ k_ ∨ P0_4_ k_ ∨ P0_5_ k_ ∨ P0_6_ k_) ∨ w.heap.size ≤ k_) ∧ some k_ ≠ (u5 : Value).ownBlock ∧ k_ ≠ gb262 ∧ k_ ≠ gb291) (.slice (some ad290) l0_4.length c0_4) l0_4 from by (with_reducible repeat (first | apply Kd.V_alloc | apply Kd.V_drewN | apply Kd.V_drew)); exact Kd.V_mono HO_263004.out (fun _ hk => ⟨hk.1.1, ⟨hk.1.2.1, ⟨hk.1.2.2, hk.2⟩⟩⟩))
             clear HO_263004; have HO_263004 := n_; clear n_; have n_ := Ext.a (show Kd.V (Kd.int .u8) 5 w99 w.heap.size (fun k_ => ((P0_3_ k_ ∨ P0_4_ k_ ∨ P0_5_ k_ ∨ P0_6_ k_) ∨ w.heap.size ≤ k_) ∧ some k_ ≠ (u5 : Value).ownBlock ∧ k_ ≠ gb262 ∧ k_ ≠ gb291) (.slice A0_5 l0_5.length c0_5) l0_5 from by (with_reducible repeat (first | apply Kd.V_alloc | apply Kd.V_drewN | apply Kd.V_drew)); exact Kd.V_mono HO_263005.out (fun _ hk => ⟨hk.1.1, ⟨hk.1.2.1, ⟨hk.1.2.2, hk.2⟩⟩⟩)); clear HO_263005; have HO_263005 := n_; clear n_; have n_ := Ext.a (show Kd.V (Kd.int .i64) 3 w99 w.heap.size (fun k_ => ((P0_3_ k_ ∨ P0_4_ k_ ∨ P0_5_ k_ ∨ P0_6_ k_) ∨ w.heap.size ≤ k_) ∧ some k_ ≠ (u5 : Value).ownBlock ∧ k_ ≠ gb262 ∧ k_ ≠ gb291) (.slice A0_6 l0_6.length c0_6) l0_6 from by (with_reducible repeat (first | apply Kd.V_alloc | apply Kd.V_drewN | apply Kd.V_drew)); exact Kd.V_mono HO_263006.out (fun _ hk => ⟨hk.1.1, ⟨hk.1.2.1, ⟨hk.1.2.2, hk.2⟩⟩⟩)); clear HO_263006; have HO_263006 := n_; clear n_; replace HO_5 := Ext.a (Kd.R_drew HO_5.out); replace HO_132 := Ext.a (Kd.V_drew HO_132.out); replace HO_263003 := Ext.a (Kd.V_drew HO_263003.out); replace HO_263004 := Ext.a (Kd.V_drew HO_263004.out); replace HO_263005 := Ext.a (Kd.V_drew HO_263005.out); replace HO_263006 := Ext.a (Kd.V_drew HO_263006.out); replace HL290_0 := Ext.a (Kd.V_drew HL290_0.out); replace BK262 := Ext.a (blk_drew BK262.out); replace BK291 := Ext.a (blk_drew BK291.out); replace HB := Ext.a (below_drew1 HB.out); refine start_ (n := 27) (S := fun w' => w'.cell? ⟨gb291, 0, none⟩ = some (.slice A290_0 ((rd_T62 l0_4 x134_1).f0).length c290_0) ∧ w'.cell? ⟨gb291, 1, none⟩ = some (.int .i64 ((rd_T62 l0_4 x134_1).f1))) (ds := []) zb27_0 (by kernel_rfl) rfl rfl ⟨(blk_cell BK291.out 0).trans rfl, (blk_cell BK291.out 1).trans rfl⟩ (fun hHeld => ?_); refine with_tabW terrierref04_room.tab25 terrierref04_room.bits25 (fun HT_ HW_ => ?_)
             generalize w99.drew = w110 at HO_5 HO_132 HO_263003 HO_263004 HO_263005 HO_263006 HL290_0 BK262 BK291 HB hHeld ⊢; refine pure_ (i := 0) (N := some 139) (v := ?_) (a' := ?_) zb27_1 rfl rfl (any_of HT_.out (by kernel_rfl)) (fun _ _ _ h => h) (Or.inl ⟨by rfl, ?_⟩) ?_ ?_; rotate_left
             · intro w'; go_simp; with_reducible rfl
             rotate_left
             · simp only [Act.put, Ext.sb, Ext.sz, Ext.ss, i64_w, i32_w]; rfl
             refine take_ (i := 1) (N := some 140) (v := ?_) (a' := ?_) zb27_2 rfl rfl (take_ofW HT_.out HW_.out (by kernel_rfl)) (fun _ _ _ h => h) (Or.inl ⟨by rfl, ?_⟩) hHeld ?_ ?_; rotate_left
             · rintro w' ⟨s0, s1⟩; go_simp; with_reducible rfl
             rotate_left
             · simp only [Act.put, Ext.sb, Ext.sz, Ext.ss, i64_w, i32_w]; rfl
             refine pure_ (i := 2) (N := some 141) (v := ?_) (a' := ?_) zb27_3 rfl rfl (any_of HT_.out (by kernel_rfl)) (fun _ _ _ h => h) (Or.inl ⟨by rfl, ?_⟩) ?_ ?_; rotate_left
             · intro w'; go_simp; with_reducible rfl
             rotate_left
             · simp only [Act.put, Ext.sb, Ext.sz, Ext.ss, i64_w, i32_w]; rfl
             refine pure_ (i := 3) (N := some 142) (v := ?_) (a' := ?_) zb27_4 rfl rfl (any_of HT_.out (by kernel_rfl)) (fun _ _ _ h => h) (Or.inl ⟨by rfl, ?_⟩) ?_ ?_; rotate_left
             · intro w'; go_simp; with_reducible rfl
             rotate_left
             · simp only [Act.put, Ext.sb, Ext.sz, Ext.ss, i64_w, i32_w]; rfl
             refine pure_ (i := 4) (N := some 143) (v := ?_) (a' := ?_) zb27_5 rfl rfl (any_of HT_.out (by kernel_rfl)) (fun _ _ _ h => h) (Or.inl ⟨by rfl, ?_⟩) ?_ ?_; rotate_left
             · intro w'; go_simp; with_reducible rfl
             rotate_left
             · simp only [Act.put, Ext.sb, Ext.sz, Ext.ss, i64_w, i32_w]; rfl
             refine pure_ (i := 5) (N := some 144) (v := ?_) (a' := ?_) zb27_6 rfl rfl (any_of HT_.out (by kernel_rfl)) (fun _ _ _ h => h) (Or.inl ⟨by rfl, ?_⟩) ?_ ?_; rotate_left
             · intro w'; go_simp; with_reducible rfl
             rotate_left
             · simp only [Act.put, Ext.sb, Ext.sz, Ext.ss, i64_w, i32_w]; rfl
             refine take_ (i := 6) (N := some 145) (v := ?_) (a' := ?_) zb27_7 rfl rfl (take_ofW HT_.out HW_.out (by kernel_rfl)) (fun _ _ _ h => h) (Or.inl ⟨by rfl, ?_⟩) hHeld ?_ ?_; rotate_left
             · rintro w' ⟨s0, s1⟩; go_simp; with_reducible rfl
             rotate_left
             · simp only [Act.put, Ext.sb, Ext.sz, Ext.ss, i64_w, i32_w]; rfl
             refine one_ (i := 7) (N := some 146) zb27_8 rfl rfl (one_of HT_.out (by kernel_rfl)) (by decide) (fun K hK => ?_); refine goes_ Try.func44 (by kernel_rfl) rfl #[.int .i64 ((rd_T62 l0_4 x134_1).f1)] (by rfl) rfl rfl (by (try simp only [List.map_toArray, List.map_cons, List.map_nil]); first | done | rfl | (simp only [List.length_drop, List.length_take]; rfl)) ?_
             with_reducible refine (terrierref04_id.calls ((rd_T62 l0_4 x134_1).f1) true _ A102.out).mono ?_
             rintro e w' ⟨rfl, ⟨nd, rfl⟩⟩; refine ⟨_, rfl, ?_⟩; refine hK.out _ _ ⟨(blk_cell BK291.out 0).trans rfl, (blk_cell BK291.out 1).trans rfl⟩ (fun hHeld => ?_); clear hK K; refine norm_ (a' := ?_) ?_ ?_; rotate_left
             · show Act.put _ (some 146) _ = _; simp only [Act.put, Ext.sb, Ext.sz, Ext.ss, i64_w, i32_w]; rfl
             refine pure_ (i := 8) (N := some 147) (v := ?_) (a' := ?_) zb27_9 rfl rfl (any_of HT_.out (by kernel_rfl)) (fun _ _ _ h => h) (Or.inl ⟨by rfl, ?_⟩) ?_ ?_; rotate_left
             · intro w'; go_simp; with_reducible rfl
             rotate_left
             · simp only [Act.put, Ext.sb, Ext.sz, Ext.ss, i64_w, i32_w]; rfl
             refine pure_ (i := 9) (N := some 148) (v := ?_) (a' := ?_) zb27_10 rfl rfl (any_of HT_.out (by kernel_rfl)) (fun _ _ _ h => h) (Or.inl ⟨by rfl, ?_⟩) ?_ ?_; rotate_left
             · intro w'; go_simp; with_reducible rfl
             rotate_left
             · simp only [Act.put, Ext.sb, Ext.sz, Ext.ss, i64_w, i32_w]; rfl
             refine pure_ (i := 10) (N := some 149) (v := ?_) (a' := ?_) zb27_11 rfl rfl (any_of HT_.out (by kernel_rfl)) (fun _ _ _ h => h) (Or.inl ⟨by rfl, ?_⟩) ?_ ?_; rotate_left
             · intro w'; go_simp; with_reducible rfl
             rotate_left
             · simp only [Act.put, Ext.sb, Ext.sz, Ext.ss, i64_w, i32_w]; rfl
             refine pure_ (i := 11) (N := some 150) (v := ?_) (a' := ?_) zb27_12 rfl rfl (any_of HT_.out (by kernel_rfl)) (fun _ _ _ h => h) (Or.inl ⟨by rfl, ?_⟩) ?_ ?_; rotate_left
             · intro w'; go_simp; with_reducible rfl
             rotate_left
             · simp only [Act.put, Ext.sb, Ext.sz, Ext.ss, i64_w, i32_w]; rfl
             refine pure_ (i := 12) (N := some 151) (v := ?_) (a' := ?_) zb27_13 rfl rfl (any_of HT_.out (by kernel_rfl)) (fun _ _ _ h => h) (Or.inl ⟨by rfl, ?_⟩) ?_ ?_; rotate_left
             · intro w'; go_simp; with_reducible rfl
             rotate_left
             · simp only [Act.put, Ext.sb, Ext.sz, Ext.ss, i64_w, i32_w]; rfl
             refine pure_ (i := 13) (N := some 152) (v := ?_) (a' := ?_) zb27_14 rfl rfl (any_of HT_.out (by kernel_rfl)) (fun _ _ _ h => h) (Or.inl ⟨by rfl, ?_⟩) ?_ ?_; rotate_left
             · intro w'; go_simp; with_reducible rfl
             rotate_left
             · simp only [Act.put, Ext.sb, Ext.sz, Ext.ss, i64_w, i32_w]; rfl
             refine pure_ (i := 14) (N := some 153) (v := undef) (a' := ?_) zb27_15 rfl rfl (any_of HT_.out (by kernel_rfl)) (fun _ _ _ h => h) (Or.inr ⟨by rfl, rfl⟩) ?_ ?_; rotate_left
             · simp only [Act.put, Ext.sb, Ext.sz, Ext.ss, i64_w, i32_w]; rfl
             refine pure_ (i := 15) (N := some 154) (v := undef) (a' := ?_) zb27_22 rfl rfl (any_of HT_.out (by kernel_rfl)) (fun _ _ _ h => h) (Or.inr ⟨by rfl, rfl⟩) ?_ ?_; rotate_left
             · simp only [Act.put, Ext.sb, Ext.sz, Ext.ss, i64_w, i32_w]; rfl
             refine pure_ (i := 16) (N := some 155) (v := undef) (a' := ?_) zb27_23 rfl rfl (any_of HT_.out (by kernel_rfl)) (fun _ _ _ h => h) (Or.inr ⟨by rfl, rfl⟩) ?_ ?_; rotate_left
             · simp only [Act.put, Ext.sb, Ext.sz, Ext.ss, i64_w, i32_w]; rfl
             refine pure_ (i := 17) (N := some 156) (v := undef) (a' := ?_) zb27_24 rfl rfl (any_of HT_.out (by kernel_rfl)) (fun _ _ _ h => h) (Or.inr ⟨by rfl, rfl⟩) ?_ ?_; rotate_left
             · simp only [Act.put, Ext.sb, Ext.sz, Ext.ss, i64_w, i32_w]; rfl
             refine pure_ (i := 18) (N := some 157) (v := undef) (a' := ?_) zb27_25 rfl rfl (any_of HT_.out (by kernel_rfl)) (fun _ _ _ h => h) (Or.inr ⟨by rfl, rfl⟩) ?_ ?_; rotate_left
             · simp only [Act.put, Ext.sb, Ext.sz, Ext.ss, i64_w, i32_w]; rfl
             refine pure_ (i := 19) (N := some 158) (v := undef) (a' := ?_) zb27_26 rfl rfl (any_of HT_.out (by kernel_rfl)) (fun _ _ _ h => h) (Or.inr ⟨by rfl, rfl⟩) ?_ ?_; rotate_left
             · simp only [Act.put, Ext.sb, Ext.sz, Ext.ss, i64_w, i32_w]; rfl
             refine pure_ (i := 20) (N := some 159) (v := undef) (a' := ?_) zb27_27 rfl rfl (any_of HT_.out (by kernel_rfl)) (fun _ _ _ h => h) (Or.inr ⟨by rfl, rfl⟩) ?_ ?_; rotate_left
             · simp only [Act.put, Ext.sb, Ext.sz, Ext.ss, i64_w, i32_w]; rfl
             refine pure_ (i := 21) (N := some 160) (v := undef) (a' := ?_) zb27_16 rfl rfl (any_of HT_.out (by kernel_rfl)) (fun _ _ _ h => h) (Or.inr ⟨by rfl, rfl⟩) ?_ ?_; rotate_left
             · simp only [Act.put, Ext.sb, Ext.sz, Ext.ss, i64_w, i32_w]; rfl
             refine pure_ (i := 22) (N := some 161) (v := undef) (a' := ?_) zb27_17 rfl rfl (any_of HT_.out (by kernel_rfl)) (fun _ _ _ h => h) (Or.inr ⟨by rfl, rfl⟩) ?_ ?_; rotate_left
             · simp only [Act.put, Ext.sb, Ext.sz, Ext.ss, i64_w, i32_w]; rfl
             refine pure_ (i := 23) (N := some 162) (v := undef) (a' := ?_) zb27_18 rfl rfl (any_of HT_.out (by kernel_rfl)) (fun _ _ _ h => h) (Or.inr ⟨by rfl, rfl⟩) ?_ ?_; rotate_left
             · simp only [Act.put, Ext.sb, Ext.sz, Ext.ss, i64_w, i32_w]; rfl
             refine pure_ (i := 24) (N := some 163) (v := undef) (a' := ?_) zb27_19 rfl rfl (any_of HT_.out (by kernel_rfl)) (fun _ _ _ h => h) (Or.inr ⟨by rfl, rfl⟩) ?_ ?_; rotate_left
             · simp only [Act.put, Ext.sb, Ext.sz, Ext.ss, i64_w, i32_w]; rfl
             refine pure_ (i := 25) (N := some 164) (v := ?_) (a' := ?_) zb27_20 rfl rfl (any_of HT_.out (by kernel_rfl)) (fun _ _ _ h => h) (Or.inl ⟨by rfl, ?_⟩) ?_ ?_; rotate_left
             · intro w'; go_simp; with_reducible rfl
             rotate_left
             · simp only [Act.put, Ext.sb, Ext.sz, Ext.ss, i64_w, i32_w]; rfl
             refine pure_ (i := 26) (N := some 165) (v := ?_) (a' := ?_) zb27_21 rfl rfl (any_of HT_.out (by kernel_rfl)) (fun _ _ _ h => h) (Or.inl ⟨by rfl, ?_⟩) ?_ ?_; rotate_left
             · intro w'; go_simp; with_reducible rfl
             rotate_left
             · simp only [Act.put, Ext.sb, Ext.sz, Ext.ss, i64_w, i32_w]; rfl
             refine done_ (done_of HT_.out (by kernel_rfl)) ?_
             try go_wp2
             go_meet
             case rel => exact ⟨_, (false), (by first | rfl | (simp; done) | (simp [*]; done)), H', ⟨by have := HK1.out; first | omega | exact Nat.le_refl _⟩, ⟨by exact Ext.nR HO_5.out⟩, ⟨by (with_reducible repeat (first | apply Kd.V_alloc | apply Kd.V_drewN | apply Kd.V_drew)); exact HO_132.out⟩, ⟨by (with_reducible repeat (first | apply Kd.V_alloc | apply Kd.V_drewN | apply Kd.V_drew)); exact HO_263003.out⟩, ⟨by (with_reducible repeat (first | apply Kd.V_alloc | apply Kd.V_drewN | apply Kd.V_drew)); exact HO_263004.out⟩, ⟨by (with_reducible repeat (first | apply Kd.V_alloc | apply Kd.V_drewN | apply Kd.V_drew)); exact HO_263005.out⟩, ⟨by (with_reducible repeat (first | apply Kd.V_alloc | apply Kd.V_drewN | apply Kd.V_drew)); exact HO_263006.out⟩, ⟨by (with_reducible repeat (first | apply Kd.V_alloc | apply Kd.V_drewN | apply Kd.V_drew)); exact HL290_0.out⟩, ⟨by (with_reducible repeat (first | refine blk_drewN ?_ _ | refine blk_drew ?_ | refine blk_alloc ?_ _)); exact BK262.out⟩, ⟨by (with_reducible repeat (first | refine blk_drewN ?_ _ | refine blk_drew ?_ | refine blk_alloc ?_ _)); exact BK291.out⟩, ⟨by exact Ext.s2 GE262.out GE291.out HB.out⟩⟩
           ·
            replace c103 := Bool.eq_false_iff.mpr c103; subst c103; rw [if_neg Bool.false_ne_true] at H; have H' := Aside0.mk H; clear H
            try go_wp2
            have n_ := Ext.a (show Kd.V (Kd.int .u8) 5 w99 w.heap.size (fun k_ => ((P0_3_ k_ ∨ P0_4_ k_ ∨ P0_5_ k_ ∨ P0_6_ k_) ∨ w.heap.size ≤ k_) ∧ some k_ ≠ (u5 : Value).ownBlock ∧ k_ ≠ gb262 ∧ k_ ≠ gb291) (.slice A290_0 ((rd_T62 l0_4 x134_1).f0).length c290_0) ((rd_T62 l0_4 x134_1).f0) from by (with_reducible repeat (first | apply Kd.V_alloc | apply Kd.V_drewN | apply Kd.V_drew)); exact Kd.V_mono HL290_0.out (fun _ hk => ⟨hk.1.1, ⟨hk.1.2.1, ⟨hk.1.2.2, hk.2⟩⟩⟩)); clear HL290_0; have HL290_0 := n_; clear n_; have n_ := Ext.a (show Kd.V k62 62 w99 w.heap.size (fun k_ => ((P0_3_ k_ ∨ P0_4_ k_ ∨ P0_5_ k_ ∨ P0_6_ k_) ∨ w.heap.size ≤ k_) ∧ some k_ ≠ (u5 : Value).ownBlock ∧ k_ ≠ gb262 ∧ k_ ≠ gb291) (.slice (some ad290) l0_4.length c0_4) l0_4 from by (with_reducible repeat (first | apply Kd.V_alloc | apply Kd.V_drewN | apply Kd.V_drew)); exact Kd.V_mono HO_132.out (fun _ hk => ⟨hk.1.1, ⟨hk.1.2.1, ⟨hk.1.2.2, hk.2⟩⟩⟩)); clear HO_132; have HO_132 := n_; clear n_; have n_ := Ext.a (show Kd.V k61 61 w99 w.heap.size (fun k_ => ((P0_3_ k_ ∨ P0_4_ k_ ∨ P0_5_ k_ ∨ P0_6_ k_) ∨ w.heap.size ≤ k_) ∧ some k_ ≠ (u5 : Value).ownBlock ∧ k_ ≠ gb262 ∧ k_ ≠ gb291) (.slice A0_3 l0_3.length c0_3) l0_3 from by (with_reducible repeat (first | apply Kd.V_alloc | apply Kd.V_drewN | apply Kd.V_drew)); exact Kd.V_mono HO_263003.out (fun _ hk => ⟨hk.1.1, ⟨hk.1.2.1, ⟨hk.1.2.2, hk.2⟩⟩⟩)); clear HO_263003; have HO_263003 := n_; clear n_; have n_ := Ext.a (show Kd.V k62 62 w99 w.heap.size (fun k_ => ((P0_3_ k_ ∨ P0_4_ k_ ∨ P0_5_ k_ ∨ P0_6_ k_) ∨ w.heap.size ≤ k_) ∧ some k_ ≠ (u5 : Value).ownBlock ∧ k_ ≠ gb262 ∧ k_ ≠ gb291) (.slice (some ad290) l0_4.length c0_4) l0_4 from by (with_reducible repeat (first | apply Kd.V_alloc | apply Kd.V_drewN | apply Kd.V_drew)); exact Kd.V_mono HO_263004.out (fun _ hk => ⟨hk.1.1, ⟨hk.1.2.1, ⟨hk.1.2.2, hk.2⟩⟩⟩))
            clear HO_263004; have HO_263004 := n_; clear n_; have n_ := Ext.a (show Kd.V (Kd.int .u8) 5 w99 w.heap.size (fun k_ => ((P0_3_ k_ ∨ P0_4_ k_ ∨ P0_5_ k_ ∨ P0_6_ k_) ∨ w.heap.size ≤ k_) ∧ some k_ ≠ (u5 : Value).ownBlock ∧ k_ ≠ gb262 ∧ k_ ≠ gb291) (.slice A0_5 l0_5.length c0_5) l0_5 from by (with_reducible repeat (first | apply Kd.V_alloc | apply Kd.V_drewN | apply Kd.V_drew)); exact Kd.V_mono HO_263005.out (fun _ hk => ⟨hk.1.1, ⟨hk.1.2.1, ⟨hk.1.2.2, hk.2⟩⟩⟩)); clear HO_263005; have HO_263005 := n_; clear n_; have n_ := Ext.a (show Kd.V (Kd.int .i64) 3 w99 w.heap.size (fun k_ => ((P0_3_ k_ ∨ P0_4_ k_ ∨ P0_5_ k_ ∨ P0_6_ k_) ∨ w.heap.size ≤ k_) ∧ some k_ ≠ (u5 : Value).ownBlock ∧ k_ ≠ gb262 ∧ k_ ≠ gb291) (.slice A0_6 l0_6.length c0_6) l0_6 from by (with_reducible repeat (first | apply Kd.V_alloc | apply Kd.V_drewN | apply Kd.V_drew)); exact Kd.V_mono HO_263006.out (fun _ hk => ⟨hk.1.1, ⟨hk.1.2.1, ⟨hk.1.2.2, hk.2⟩⟩⟩)); clear HO_263006; have HO_263006 := n_; clear n_; replace HO_5 := Ext.a (Kd.R_drew HO_5.out); replace HO_132 := Ext.a (Kd.V_drew HO_132.out); replace HO_263003 := Ext.a (Kd.V_drew HO_263003.out); replace HO_263004 := Ext.a (Kd.V_drew HO_263004.out); replace HO_263005 := Ext.a (Kd.V_drew HO_263005.out); replace HO_263006 := Ext.a (Kd.V_drew HO_263006.out); replace HL290_0 := Ext.a (Kd.V_drew HL290_0.out); replace BK262 := Ext.a (blk_drew BK262.out); replace BK291 := Ext.a (blk_drew BK291.out); replace HB := Ext.a (below_drew1 HB.out); refine start_ (n := 27) (S := fun w' => w'.cell? ⟨gb291, 0, none⟩ = some (.slice A290_0 ((rd_T62 l0_4 x134_1).f0).length c290_0) ∧ w'.cell? ⟨gb291, 1, none⟩ = some (.int .i64 ((rd_T62 l0_4 x134_1).f1))) (ds := []) zb27_0 (by kernel_rfl) rfl rfl ⟨(blk_cell BK291.out 0).trans rfl, (blk_cell BK291.out 1).trans rfl⟩ (fun hHeld => ?_); refine with_tabW terrierref04_room.tab25 terrierref04_room.bits25 (fun HT_ HW_ => ?_)
            generalize w99.drew = w111 at HO_5 HO_132 HO_263003 HO_263004 HO_263005 HO_263006 HL290_0 BK262 BK291 HB hHeld ⊢; refine pure_ (i := 0) (N := some 139) (v := ?_) (a' := ?_) zb27_1 rfl rfl (any_of HT_.out (by kernel_rfl)) (fun _ _ _ h => h) (Or.inl ⟨by rfl, ?_⟩) ?_ ?_; rotate_left
            · intro w'; go_simp; with_reducible rfl
            rotate_left
            · simp only [Act.put, Ext.sb, Ext.sz, Ext.ss, i64_w, i32_w]; rfl
            refine take_ (i := 1) (N := some 140) (v := ?_) (a' := ?_) zb27_2 rfl rfl (take_ofW HT_.out HW_.out (by kernel_rfl)) (fun _ _ _ h => h) (Or.inl ⟨by rfl, ?_⟩) hHeld ?_ ?_; rotate_left
            · rintro w' ⟨s0, s1⟩; go_simp; with_reducible rfl
            rotate_left
            · simp only [Act.put, Ext.sb, Ext.sz, Ext.ss, i64_w, i32_w]; rfl
            refine pure_ (i := 2) (N := some 141) (v := ?_) (a' := ?_) zb27_3 rfl rfl (any_of HT_.out (by kernel_rfl)) (fun _ _ _ h => h) (Or.inl ⟨by rfl, ?_⟩) ?_ ?_; rotate_left
            · intro w'; go_simp; with_reducible rfl
            rotate_left
            · simp only [Act.put, Ext.sb, Ext.sz, Ext.ss, i64_w, i32_w]; rfl
            refine pure_ (i := 3) (N := some 142) (v := ?_) (a' := ?_) zb27_4 rfl rfl (any_of HT_.out (by kernel_rfl)) (fun _ _ _ h => h) (Or.inl ⟨by rfl, ?_⟩) ?_ ?_; rotate_left
            · intro w'; go_simp; with_reducible rfl
            rotate_left
            · simp only [Act.put, Ext.sb, Ext.sz, Ext.ss, i64_w, i32_w]; rfl
            refine pure_ (i := 4) (N := some 143) (v := ?_) (a' := ?_) zb27_5 rfl rfl (any_of HT_.out (by kernel_rfl)) (fun _ _ _ h => h) (Or.inl ⟨by rfl, ?_⟩) ?_ ?_; rotate_left
            · intro w'; go_simp; with_reducible rfl
            rotate_left
            · simp only [Act.put, Ext.sb, Ext.sz, Ext.ss, i64_w, i32_w]; rfl
            refine pure_ (i := 5) (N := some 144) (v := ?_) (a' := ?_) zb27_6 rfl rfl (any_of HT_.out (by kernel_rfl)) (fun _ _ _ h => h) (Or.inl ⟨by rfl, ?_⟩) ?_ ?_; rotate_left
            · intro w'; go_simp; with_reducible rfl
            rotate_left
            · simp only [Act.put, Ext.sb, Ext.sz, Ext.ss, i64_w, i32_w]; rfl
            refine take_ (i := 6) (N := some 145) (v := ?_) (a' := ?_) zb27_7 rfl rfl (take_ofW HT_.out HW_.out (by kernel_rfl)) (fun _ _ _ h => h) (Or.inl ⟨by rfl, ?_⟩) hHeld ?_ ?_; rotate_left
            · rintro w' ⟨s0, s1⟩; go_simp; with_reducible rfl
            rotate_left
            · simp only [Act.put, Ext.sb, Ext.sz, Ext.ss, i64_w, i32_w]; rfl
            refine one_ (i := 7) (N := some 146) zb27_8 rfl rfl (one_of HT_.out (by kernel_rfl)) (by decide) (fun K hK => ?_); refine goes_ Try.func44 (by kernel_rfl) rfl #[.int .i64 ((rd_T62 l0_4 x134_1).f1)] (by rfl) rfl rfl (by (try simp only [List.map_toArray, List.map_cons, List.map_nil]); first | done | rfl | (simp only [List.length_drop, List.length_take]; rfl)) ?_
            with_reducible refine (terrierref04_id.calls ((rd_T62 l0_4 x134_1).f1) false _ A102.out).mono ?_
            rintro e w' ⟨rfl, ⟨nd, rfl⟩⟩; refine ⟨_, rfl, ?_⟩; refine hK.out _ _ ⟨(blk_cell BK291.out 0).trans rfl, (blk_cell BK291.out 1).trans rfl⟩ (fun hHeld => ?_); clear hK K; refine norm_ (a' := ?_) ?_ ?_; rotate_left
            · show Act.put _ (some 146) _ = _; simp only [Act.put, Ext.sb, Ext.sz, Ext.ss, i64_w, i32_w]; rfl
            refine pure_ (i := 8) (N := some 147) (v := ?_) (a' := ?_) zb27_9 rfl rfl (any_of HT_.out (by kernel_rfl)) (fun _ _ _ h => h) (Or.inl ⟨by rfl, ?_⟩) ?_ ?_; rotate_left
            · intro w'; go_simp; with_reducible rfl
            rotate_left
            · simp only [Act.put, Ext.sb, Ext.sz, Ext.ss, i64_w, i32_w]; rfl
            refine pure_ (i := 9) (N := some 148) (v := ?_) (a' := ?_) zb27_10 rfl rfl (any_of HT_.out (by kernel_rfl)) (fun _ _ _ h => h) (Or.inl ⟨by rfl, ?_⟩) ?_ ?_; rotate_left
            · intro w'; go_simp; with_reducible rfl
            rotate_left
            · simp only [Act.put, Ext.sb, Ext.sz, Ext.ss, i64_w, i32_w]; rfl
            refine pure_ (i := 10) (N := some 149) (v := ?_) (a' := ?_) zb27_11 rfl rfl (any_of HT_.out (by kernel_rfl)) (fun _ _ _ h => h) (Or.inl ⟨by rfl, ?_⟩) ?_ ?_; rotate_left
            · intro w'; go_simp; with_reducible rfl
            rotate_left
            · simp only [Act.put, Ext.sb, Ext.sz, Ext.ss, i64_w, i32_w]; rfl
            refine pure_ (i := 11) (N := some 150) (v := undef) (a' := ?_) zb27_12 rfl rfl (any_of HT_.out (by kernel_rfl)) (fun _ _ _ h => h) (Or.inr ⟨by rfl, rfl⟩) ?_ ?_; rotate_left
            · simp only [Act.put, Ext.sb, Ext.sz, Ext.ss, i64_w, i32_w]; rfl
            refine pure_ (i := 12) (N := some 151) (v := undef) (a' := ?_) zb27_13 rfl rfl (any_of HT_.out (by kernel_rfl)) (fun _ _ _ h => h) (Or.inr ⟨by rfl, rfl⟩) ?_ ?_; rotate_left
            · simp only [Act.put, Ext.sb, Ext.sz, Ext.ss, i64_w, i32_w]; rfl
            refine pure_ (i := 13) (N := some 152) (v := undef) (a' := ?_) zb27_14 rfl rfl (any_of HT_.out (by kernel_rfl)) (fun _ _ _ h => h) (Or.inr ⟨by rfl, rfl⟩) ?_ ?_; rotate_left
            · simp only [Act.put, Ext.sb, Ext.sz, Ext.ss, i64_w, i32_w]; rfl
            refine pure_ (i := 14) (N := some 153) (v := undef) (a' := ?_) zb27_15 rfl rfl (any_of HT_.out (by kernel_rfl)) (fun _ _ _ h => h) (Or.inr ⟨by rfl, rfl⟩) ?_ ?_; rotate_left
            · simp only [Act.put, Ext.sb, Ext.sz, Ext.ss, i64_w, i32_w]; rfl
            refine pure_ (i := 15) (N := some 154) (v := undef) (a' := ?_) zb27_22 rfl rfl (any_of HT_.out (by kernel_rfl)) (fun _ _ _ h => h) (Or.inr ⟨by rfl, rfl⟩) ?_ ?_; rotate_left
            · simp only [Act.put, Ext.sb, Ext.sz, Ext.ss, i64_w, i32_w]; rfl
            refine pure_ (i := 16) (N := some 155) (v := undef) (a' := ?_) zb27_23 rfl rfl (any_of HT_.out (by kernel_rfl)) (fun _ _ _ h => h) (Or.inr ⟨by rfl, rfl⟩) ?_ ?_; rotate_left
            · simp only [Act.put, Ext.sb, Ext.sz, Ext.ss, i64_w, i32_w]; rfl
            refine pure_ (i := 17) (N := some 156) (v := undef) (a' := ?_) zb27_24 rfl rfl (any_of HT_.out (by kernel_rfl)) (fun _ _ _ h => h) (Or.inr ⟨by rfl, rfl⟩) ?_ ?_; rotate_left
            · simp only [Act.put, Ext.sb, Ext.sz, Ext.ss, i64_w, i32_w]; rfl
            refine pure_ (i := 18) (N := some 157) (v := undef) (a' := ?_) zb27_25 rfl rfl (any_of HT_.out (by kernel_rfl)) (fun _ _ _ h => h) (Or.inr ⟨by rfl, rfl⟩) ?_ ?_; rotate_left
            · simp only [Act.put, Ext.sb, Ext.sz, Ext.ss, i64_w, i32_w]; rfl
            refine pure_ (i := 19) (N := some 158) (v := undef) (a' := ?_) zb27_26 rfl rfl (any_of HT_.out (by kernel_rfl)) (fun _ _ _ h => h) (Or.inr ⟨by rfl, rfl⟩) ?_ ?_; rotate_left
            · simp only [Act.put, Ext.sb, Ext.sz, Ext.ss, i64_w, i32_w]; rfl
            refine pure_ (i := 20) (N := some 159) (v := undef) (a' := ?_) zb27_27 rfl rfl (any_of HT_.out (by kernel_rfl)) (fun _ _ _ h => h) (Or.inr ⟨by rfl, rfl⟩) ?_ ?_; rotate_left
            · simp only [Act.put, Ext.sb, Ext.sz, Ext.ss, i64_w, i32_w]; rfl
            refine pure_ (i := 21) (N := some 160) (v := undef) (a' := ?_) zb27_16 rfl rfl (any_of HT_.out (by kernel_rfl)) (fun _ _ _ h => h) (Or.inr ⟨by rfl, rfl⟩) ?_ ?_; rotate_left
            · simp only [Act.put, Ext.sb, Ext.sz, Ext.ss, i64_w, i32_w]; rfl
            refine pure_ (i := 22) (N := some 161) (v := undef) (a' := ?_) zb27_17 rfl rfl (any_of HT_.out (by kernel_rfl)) (fun _ _ _ h => h) (Or.inr ⟨by rfl, rfl⟩) ?_ ?_; rotate_left
            · simp only [Act.put, Ext.sb, Ext.sz, Ext.ss, i64_w, i32_w]; rfl
            refine pure_ (i := 23) (N := some 162) (v := undef) (a' := ?_) zb27_18 rfl rfl (any_of HT_.out (by kernel_rfl)) (fun _ _ _ h => h) (Or.inr ⟨by rfl, rfl⟩) ?_ ?_; rotate_left
            · simp only [Act.put, Ext.sb, Ext.sz, Ext.ss, i64_w, i32_w]; rfl
            refine pure_ (i := 24) (N := some 163) (v := undef) (a' := ?_) zb27_19 rfl rfl (any_of HT_.out (by kernel_rfl)) (fun _ _ _ h => h) (Or.inr ⟨by rfl, rfl⟩) ?_ ?_; rotate_left
            · simp only [Act.put, Ext.sb, Ext.sz, Ext.ss, i64_w, i32_w]; rfl
            refine pure_ (i := 25) (N := some 164) (v := undef) (a' := ?_) zb27_20 rfl rfl (any_of HT_.out (by kernel_rfl)) (fun _ _ _ h => h) (Or.inr ⟨by rfl, rfl⟩) ?_ ?_; rotate_left
            · simp only [Act.put, Ext.sb, Ext.sz, Ext.ss, i64_w, i32_w]; rfl
            refine pure_ (i := 26) (N := some 165) (v := ?_) (a' := ?_) zb27_21 rfl rfl (any_of HT_.out (by kernel_rfl)) (fun _ _ _ h => h) (Or.inl ⟨by rfl, ?_⟩) ?_ ?_; rotate_left
            · intro w'; go_simp; with_reducible rfl
            rotate_left
            · simp only [Act.put, Ext.sb, Ext.sz, Ext.ss, i64_w, i32_w]; rfl
            refine done_ (done_of HT_.out (by kernel_rfl)) ?_
            try go_wp2
            go_meet
            case rel => exact ⟨_, (true), (by first | rfl | (simp; done) | (simp [*]; done)), H', ⟨by have := HK1.out; first | omega | exact Nat.le_refl _⟩, ⟨by exact Ext.nR HO_5.out⟩, ⟨by (with_reducible repeat (first | apply Kd.V_alloc | apply Kd.V_drewN | apply Kd.V_drew)); exact HO_132.out⟩, ⟨by (with_reducible repeat (first | apply Kd.V_alloc | apply Kd.V_drewN | apply Kd.V_drew)); exact HO_263003.out⟩, ⟨by (with_reducible repeat (first | apply Kd.V_alloc | apply Kd.V_drewN | apply Kd.V_drew)); exact HO_263004.out⟩, ⟨by (with_reducible repeat (first | apply Kd.V_alloc | apply Kd.V_drewN | apply Kd.V_drew)); exact HO_263005.out⟩, ⟨by (with_reducible repeat (first | apply Kd.V_alloc | apply Kd.V_drewN | apply Kd.V_drew)); exact HO_263006.out⟩, ⟨by (with_reducible repeat (first | apply Kd.V_alloc | apply Kd.V_drewN | apply Kd.V_drew)); exact HL290_0.out⟩, ⟨by (with_reducible repeat (first | refine blk_drewN ?_ _ | refine blk_drew ?_ | refine blk_alloc ?_ _)); exact BK262.out⟩, ⟨by (with_reducible repeat (first | refine blk_drewN ?_ _ | refine blk_drew ?_ | refine blk_alloc ?_ _)); exact BK291.out⟩, ⟨by exact Ext.s2 GE262.out GE291.out HB.out⟩⟩
         case rest => as_aux_lemma =>
          clear HC95; (try clear c104b0); obtain ⟨kq, x165_94, rfl, HA, HJ94, HO_5, HO_132, HO_263003, HO_263004, HO_263005, HO_263006, HO_292000, BK262, BK291, HB⟩ := hcut; cases kq with
          | zero => exact absurd HA.out (by simp [terrierref04_room.j4])
          | succ kj94 =>
           have H := HA.out; clear HA; simp only [terrierref04_room.j4] at H
           by_cases c112 : x165_94 = true
           ·
            subst c112; rw [if_pos rfl] at H; simp only [Option.some.injEq, Prod.mk.injEq] at H; obtain ⟨rfl, rfl, rfl⟩ := H
            as_aux_lemma =>
             go_wp2
             go_ret3
             exact ⟨_, by first | rfl | (simp [errW_none, errW_some] <;> rfl) | (simp [*, errW_none, errW_some] <;> rfl), by first | exact Ext.nl | exact Kd.R_nil _ _ _ _ _, by exact Ext.s2 GE262.out GE291.out HB.out⟩
           ·
            replace c112 := Bool.eq_false_iff.mpr c112; subst c112; rw [if_neg Bool.false_ne_true] at H
            by_cases c113 : x5_1.length < 140737488355328
            ·
             rw [if_pos c113] at H; have LMc113 := Aside0.mk c113; clear c113; obtain ⟨y295, hy295⟩ : ∃ y_ : List Int, y_ = (x5_1 ++ [((((rd_T62 l0_4 x134_1).f0).length : Int)) % 256]) := ⟨_, rfl⟩
             replace H : (if y295.length + ((rd_T62 l0_4 x134_1).f0).length < 140737488355328 then ((some (y295 ++ ((rd_T62 l0_4 x134_1).f0) : List Int)).bind fun y298 => ((terrierref01_Put.f kj94 (IntKind.u64.wrap (((rd_T62 l0_4 x134_1).f1))) 4).bind fun t301 => (if y298.length + t301.length < 140737488355328 then (terrierref04_room.l1 kj94 (y298 ++ t301) (l0_4.length : Int) l0_4 (l0_4.length : Int) (wrap64 (x134_1 + 1)) a0_0 a0_1 a0_2 l0_3 l0_4 l0_5 l0_6) else (none)))) else (none)) = some (r1, r2, r3) := by first | (rw [hy295]; with_reducible exact H) | (have H2_ := (Option.bind_some _ _).symm.trans H; rw [hy295]; with_reducible exact H2_) | (have H2_ := (Option.bind_some _ _).symm.trans H; with_reducible exact H2_) | with_reducible exact H | (rw [hy295]; exact H) | exact H
             have Ny295 := Aside0.mk hy295; clear hy295
             by_cases c114 : y295.length + ((rd_T62 l0_4 x134_1).f0).length < 140737488355328
             ·
              rw [if_pos c114] at H; have LMc114 := Aside0.mk c114; clear c114; obtain ⟨y298, hy298⟩ : ∃ y_ : List Int, y_ = (y295 ++ ((rd_T62 l0_4 x134_1).f0)) := ⟨_, rfl⟩
              replace H : ((terrierref01_Put.f kj94 (IntKind.u64.wrap (((rd_T62 l0_4 x134_1).f1))) 4).bind fun t301 => (if y298.length + t301.length < 140737488355328 then (terrierref04_room.l1 kj94 (y298 ++ t301) (l0_4.length : Int) l0_4 (l0_4.length : Int) (wrap64 (x134_1 + 1)) a0_0 a0_1 a0_2 l0_3 l0_4 l0_5 l0_6) else (none))) = some (r1, r2, r3) := by first | (rw [hy298]; with_reducible exact H) | (have H2_ := (Option.bind_some _ _).symm.trans H; rw [hy298]; with_reducible exact H2_) | (have H2_ := (Option.bind_some _ _).symm.trans H; with_reducible exact H2_) | with_reducible exact H | (rw [hy298]; exact H) | exact H
              have Ny298 := Aside0.mk hy298; clear hy298; replace H := Option.bind_eq_some_iff.mp H; obtain ⟨t301, A1150, H⟩ := H; (try dsimp only at H); have A115 := Aside0.mk A1150; clear A1150
              by_cases c116 : y298.length + t301.length < 140737488355328
              ·
               rw [if_pos c116] at H; have LMc116 := Aside0.mk c116; clear c116; obtain ⟨y304, hy304⟩ : ∃ y_ : List Int, y_ = (y298 ++ t301) := ⟨_, rfl⟩
               replace H : (terrierref04_room.l1 kj94 y304 (l0_4.length : Int) l0_4 (l0_4.length : Int) (wrap64 (x134_1 + 1)) a0_0 a0_1 a0_2 l0_3 l0_4 l0_5 l0_6) = some (r1, r2, r3) := by first | (rw [hy304]; with_reducible exact H) | (have H2_ := (Option.bind_some _ _).symm.trans H; rw [hy304]; with_reducible exact H2_) | (have H2_ := (Option.bind_some _ _).symm.trans H; with_reducible exact H2_) | with_reducible exact H | (rw [hy304]; exact H) | exact H
               have Ny304 := Aside0.mk hy304; clear hy304; have H' := Aside0.mk H; clear H; have hnb117 := NB291_262.out; have hnc117 := NB262_291.out; have hcz118_0 : wc.cell? ⟨gb291, 0, none⟩ = some (.slice A290_0 ((rd_T62 l0_4 x134_1).f0).length c290_0) := (blk_cell BK291.out 0).trans rfl; have hcz118_1 : wc.cell? ⟨gb291, 1, none⟩ = some (.int .i64 ((rd_T62 l0_4 x134_1).f1)) := (blk_cell BK291.out 1).trans rfl; have hfz118_0 := blk_frozen BK291.out 0; have hfz118_1 := blk_frozen BK291.out 1
               go_wp2_with (first | ((with_reducible refine gate_builtin (b := .append) (xs := #[.tmp 166, .tmp 171]) rfl ?_); (try (refine gate_guard (by rfl) ?_; dsimp only)); at_builtin; refine Kd.R_append (Kd.int .u8) (w0 := w) w.heap.size rfl (.tmp 166) (.tmp 171) 25 5 (.int .u8 0) 1 rfl Try.underlying25 info5 rfl (by decide) (by omega) u5 x5_1 (((((rd_T62 l0_4 x134_1).f0).length : Int)) % 256) [.int .u8 (((((rd_T62 l0_4 x134_1).f0).length : Int)) % 256)] (ok27_0 w) (fun _ => False) rfl rfl ?aP (fun _ hk => hk.elim) ?aF ?aO ?aB ?aS ?aL ?_; (case aP => exact rfl); (case aB => exact (Ext.s2 GE262.out GE291.out HB.out)); (case aF => exact (fun k_ hk => (Nat.le_trans (below_size (Ext.s2 GE262.out GE291.out HB.out)) hk))); (case aO => exact (Ext.nR HO_5.out)); (case aS => exact (below_size (Ext.s2 GE262.out GE291.out HB.out))); (case aL => have := LMc113.out; omega); intro v296 w119 ho hb hg hat; rw [← Ny295.out] at ho; replace HO_132 := Ext.a (Kd.V_afterv (ok := (fun k_ => ((P0_3_ k_ ∨ P0_4_ k_ ∨ P0_5_ k_ ∨ P0_6_ k_) ∨ w.heap.size ≤ k_) ∧ k_ ≠ gb262 ∧ k_ ≠ gb291)) (Ext.nV (Kd.V_mono HO_132.out (fun _ hk => ⟨⟨hk.1, ⟨hk.2.2.1, hk.2.2.2⟩⟩, hk.2.1⟩))) hg hat); replace HO_263003 := Ext.a (Kd.V_afterv (ok := (fun k_ => ((P0_3_ k_ ∨ P0_4_ k_ ∨ P0_5_ k_ ∨ P0_6_ k_) ∨ w.heap.size ≤ k_) ∧ k_ ≠ gb262 ∧ k_ ≠ gb291)) (Ext.nV (Kd.V_mono HO_263003.out (fun _ hk => ⟨⟨hk.1, ⟨hk.2.2.1, hk.2.2.2⟩⟩, hk.2.1⟩))) hg hat); replace HO_263004 := Ext.a (Kd.V_afterv (ok := (fun k_ => ((P0_3_ k_ ∨ P0_4_ k_ ∨ P0_5_ k_ ∨ P0_6_ k_) ∨ w.heap.size ≤ k_) ∧ k_ ≠ gb262 ∧ k_ ≠ gb291)) (Ext.nV (Kd.V_mono HO_263004.out (fun _ hk => ⟨⟨hk.1, ⟨hk.2.2.1, hk.2.2.2⟩⟩, hk.2.1⟩))) hg hat); replace HO_263005 := Ext.a (Kd.V_afterv (ok := (fun k_ => ((P0_3_ k_ ∨ P0_4_ k_ ∨ P0_5_ k_ ∨ P0_6_ k_) ∨ w.heap.size ≤ k_) ∧ k_ ≠ gb262 ∧ k_ ≠ gb291)) (Ext.nV (Kd.V_mono HO_263005.out (fun _ hk => ⟨⟨hk.1, ⟨hk.2.2.1, hk.2.2.2⟩⟩, hk.2.1⟩))) hg hat); replace HO_263006 := Ext.a (Kd.V_afterv (ok := (fun k_ => ((P0_3_ k_ ∨ P0_4_ k_ ∨ P0_5_ k_ ∨ P0_6_ k_) ∨ w.heap.size ≤ k_) ∧ k_ ≠ gb262 ∧ k_ ≠ gb291)) (Ext.nV (Kd.V_mono HO_263006.out (fun _ hk => ⟨⟨hk.1, ⟨hk.2.2.1, hk.2.2.2⟩⟩, hk.2.1⟩))) hg hat); replace HO_292000 := Ext.a (Kd.V_afterv (ok := (fun k_ => ((P0_3_ k_ ∨ P0_4_ k_ ∨ P0_5_ k_ ∨ P0_6_ k_) ∨ w.heap.size ≤ k_) ∧ k_ ≠ gb262 ∧ k_ ≠ gb291)) (Ext.nV (Kd.V_mono HO_292000.out (fun _ hk => ⟨⟨hk.1, ⟨hk.2.2.1, hk.2.2.2⟩⟩, hk.2.1⟩))) hg hat); replace BK262 := Ext.a (blk_grown BK262.out hg (Kd.R_ne HO_5.out BK262.out (by decide))); replace BK291 := Ext.a (blk_grown BK291.out hg (Kd.R_ne HO_5.out BK291.out (by decide))); replace HB := Ext.a (hb); have HO297 := Ext.a (ho); clear HO_5; clear ho hb hg hat; have hcz120_0 : w119.cell? ⟨gb291, 0, none⟩ = some (.slice A290_0 ((rd_T62 l0_4 x134_1).f0).length c290_0) := (blk_cell BK291.out 0).trans rfl; have hcz120_1 : w119.cell? ⟨gb291, 1, none⟩ = some (.int .i64 ((rd_T62 l0_4 x134_1).f1)) := (blk_cell BK291.out 1).trans rfl; have hfz120_0 := blk_frozen BK291.out 0; have hfz120_1 := blk_frozen BK291.out 1) | ((with_reducible refine gate_builtin (b := .append) (xs := #[.tmp 173, .tmp 175]) rfl ?_); (try (refine gate_guard (by rfl) ?_; dsimp only)); at_builtin; refine Kd.R_append_rows (Kd.int .u8) (w0 := w) w.heap.size rfl (.tmp 173) (.tmp 175) 25 5 (.int .u8 0) 1 rfl Try.underlying25 info5 rfl (by decide) (by omega) v296 y295 ((rd_T62 l0_4 x134_1).f0) _ _ _ (ok27_0 w) (fun _ => False) rfl rfl ?aO ?aR (fun _ _ h => h) (fun _ h => h.elim) ?aF ?aB ?aS ?aL ?_; (case aR => exact Ext.nC (Kd.V_reads' HO_292000.out).2.2); (case aB => exact (Ext.s2 GE262.out GE291.out HB.out)); (case aF => exact (fun k_ hk => (Nat.le_trans (below_size (Ext.s2 GE262.out GE291.out HB.out)) hk))); (case aO => exact (Ext.nR HO297.out)); (case aS => exact (below_size (Ext.s2 GE262.out GE291.out HB.out))); (case aL => have := LMc114.out; omega); intro v299 w121 ho hb hg hat; rw [← Ny298.out] at ho; replace HO_132 := Ext.a (Kd.V_afterv (ok := (fun k_ => ((P0_3_ k_ ∨ P0_4_ k_ ∨ P0_5_ k_ ∨ P0_6_ k_) ∨ w.heap.size ≤ k_) ∧ k_ ≠ gb262 ∧ k_ ≠ gb291)) (Ext.nV HO_132.out) hg hat); replace HO_263003 := Ext.a (Kd.V_afterv (ok := (fun k_ => ((P0_3_ k_ ∨ P0_4_ k_ ∨ P0_5_ k_ ∨ P0_6_ k_) ∨ w.heap.size ≤ k_) ∧ k_ ≠ gb262 ∧ k_ ≠ gb291)) (Ext.nV HO_263003.out) hg hat); replace HO_263004 := Ext.a (Kd.V_afterv (ok := (fun k_ => ((P0_3_ k_ ∨ P0_4_ k_ ∨ P0_5_ k_ ∨ P0_6_ k_) ∨ w.heap.size ≤ k_) ∧ k_ ≠ gb262 ∧ k_ ≠ gb291)) (Ext.nV HO_263004.out) hg hat); replace HO_263005 := Ext.a (Kd.V_afterv (ok := (fun k_ => ((P0_3_ k_ ∨ P0_4_ k_ ∨ P0_5_ k_ ∨ P0_6_ k_) ∨ w.heap.size ≤ k_) ∧ k_ ≠ gb262 ∧ k_ ≠ gb291)) (Ext.nV HO_263005.out) hg hat); replace HO_263006 := Ext.a (Kd.V_afterv (ok := (fun k_ => ((P0_3_ k_ ∨ P0_4_ k_ ∨ P0_5_ k_ ∨ P0_6_ k_) ∨ w.heap.size ≤ k_) ∧ k_ ≠ gb262 ∧ k_ ≠ gb291)) (Ext.nV HO_263006.out) hg hat); replace HO_292000 := Ext.a (Kd.V_afterv (ok := (fun k_ => ((P0_3_ k_ ∨ P0_4_ k_ ∨ P0_5_ k_ ∨ P0_6_ k_) ∨ w.heap.size ≤ k_) ∧ k_ ≠ gb262 ∧ k_ ≠ gb291)) (Ext.nV HO_292000.out) hg hat); replace BK262 := Ext.a (blk_grown BK262.out hg (Kd.R_ne HO297.out BK262.out (by decide))); replace BK291 := Ext.a (blk_grown BK291.out hg (Kd.R_ne HO297.out BK291.out (by decide))); replace HB := Ext.a (hb); have HO300 := Ext.a (ho); clear HO297; clear ho hb hg hat; have hcz122_0 : w121.cell? ⟨gb291, 0, none⟩ = some (.slice A290_0 ((rd_T62 l0_4 x134_1).f0).length c290_0) := (blk_cell BK291.out 0).trans rfl; have hcz122_1 : w121.cell? ⟨gb291, 1, none⟩ = some (.int .i64 ((rd_T62 l0_4 x134_1).f1)) := (blk_cell BK291.out 1).trans rfl; have hfz122_0 := blk_frozen BK291.out 0; have hfz122_1 := blk_frozen BK291.out 1) | ((with_reducible refine gate_callee (f := 32) rfl ?_); refine Ext.gs (some 181) rfl rfl Try.func32 #[.int .u64 (IntKind.u64.wrap (((rd_T62 l0_4 x134_1).f1))), .int .i64 4] rfl ?_; (with_reducible refine (terrierref01_Put.calls kj94 (IntKind.u64.wrap (((rd_T62 l0_4 x134_1).f1))) 4 t301 _ A115.out).mono ?_); rintro e w123 ⟨v302, rfl, ho0, hb⟩; refine ⟨_, rfl, ?_⟩; replace HO_132 := Ext.a (Kd.V_elder' (Ext.nV HO_132.out) (Kd.R_base ho0) hb); replace HO_263003 := Ext.a (Kd.V_elder' (Ext.nV HO_263003.out) (Kd.R_base ho0) hb); replace HO_263004 := Ext.a (Kd.V_elder' (Ext.nV HO_263004.out) (Kd.R_base ho0) hb); replace HO_263005 := Ext.a (Kd.V_elder' (Ext.nV HO_263005.out) (Kd.R_base ho0) hb); replace HO_263006 := Ext.a (Kd.V_elder' (Ext.nV HO_263006.out) (Kd.R_base ho0) hb); replace HO_292000 := Ext.a (Kd.V_elder' (Ext.nV HO_292000.out) (Kd.R_base ho0) hb); have HO303 := Ext.a (Kd.R_lower (Kd.R_new' (Kd.R_newM (M := fun k_ => (w.heap.size ≤ k_)) ho0 (below_size (Ext.s2 GE262.out GE291.out HB.out)) (fun k_ h_ => h_)) (Kd.R_lt (Ext.nR HO300.out))) (below_size (Ext.s2 GE262.out GE291.out HB.out))); replace HO300 := Ext.a (Kd.R_elder' (Ext.nR HO300.out) (Kd.R_base ho0) hb); replace BK262 := Ext.a (blk_below BK262.out hb); replace BK291 := Ext.a (blk_below BK291.out hb); replace HB := Ext.a (below_step (Ext.s2 GE262.out GE291.out HB.out) hb); (try clear hb ho0); obtain ⟨Ao125, co125, eo125⟩ := Kd.R_slice HO303.out; subst eo125) | ((with_reducible refine gate_builtin (b := .append) (xs := #[.tmp 177, .tmp 181]) rfl ?_); (try (refine gate_guard (by rfl) ?_; dsimp only)); at_builtin; refine Kd.R_append_rows (Kd.int .u8) (w0 := w) w.heap.size rfl (.tmp 177) (.tmp 181) 25 5 (.int .u8 0) 1 rfl Try.underlying25 info5 rfl (by decide) (by omega) v299 y298 t301 _ _ _ (ok27_1 w (.slice Ao125 t301.length co125)) (fun _ => False) rfl rfl ?aO ?aR (fun _ _ h => h) (fun _ h => h.elim) ?aF ?aB ?aS ?aL ?_; (case aR => exact Ext.nC (Kd.R_reads' HO303.out).2.2); (case aB => exact (Ext.s2 GE262.out GE291.out HB.out)); (case aF => exact (fun k_ hk => ⟨(Nat.le_trans (below_size (Ext.s2 GE262.out GE291.out HB.out)) hk), Kd.fresh' (Kd.R_lt (Ext.nR HO303.out)) k_ hk⟩)); (case aO => exact (Ext.nR HO300.out)); (case aS => exact (below_size (Ext.s2 GE262.out GE291.out HB.out))); (case aL => have := LMc116.out; omega); intro v305 w124 ho hb hg hat; rw [← Ny304.out] at ho; replace HO_132 := Ext.a (Kd.V_afterv (ok := (fun k_ => ((P0_3_ k_ ∨ P0_4_ k_ ∨ P0_5_ k_ ∨ P0_6_ k_) ∨ w.heap.size ≤ k_) ∧ some k_ ≠ (.slice Ao125 t301.length co125 : Value).ownBlock ∧ k_ ≠ gb262 ∧ k_ ≠ gb291)) (Ext.nV (Kd.V_mono HO_132.out (fun _ hk => ⟨⟨hk.1.1.1, ⟨hk.2, ⟨hk.1.1.2.1, hk.1.1.2.2⟩⟩⟩, hk.1.2⟩))) hg hat); replace HO_263003 := Ext.a (Kd.V_afterv (ok := (fun k_ => ((P0_3_ k_ ∨ P0_4_ k_ ∨ P0_5_ k_ ∨ P0_6_ k_) ∨ w.heap.size ≤ k_) ∧ some k_ ≠ (.slice Ao125 t301.length co125 : Value).ownBlock ∧ k_ ≠ gb262 ∧ k_ ≠ gb291)) (Ext.nV (Kd.V_mono HO_263003.out (fun _ hk => ⟨⟨hk.1.1.1, ⟨hk.2, ⟨hk.1.1.2.1, hk.1.1.2.2⟩⟩⟩, hk.1.2⟩))) hg hat); replace HO_263004 := Ext.a (Kd.V_afterv (ok := (fun k_ => ((P0_3_ k_ ∨ P0_4_ k_ ∨ P0_5_ k_ ∨ P0_6_ k_) ∨ w.heap.size ≤ k_) ∧ some k_ ≠ (.slice Ao125 t301.length co125 : Value).ownBlock ∧ k_ ≠ gb262 ∧ k_ ≠ gb291)) (Ext.nV (Kd.V_mono HO_263004.out (fun _ hk => ⟨⟨hk.1.1.1, ⟨hk.2, ⟨hk.1.1.2.1, hk.1.1.2.2⟩⟩⟩, hk.1.2⟩))) hg hat); replace HO_263005 := Ext.a (Kd.V_afterv (ok := (fun k_ => ((P0_3_ k_ ∨ P0_4_ k_ ∨ P0_5_ k_ ∨ P0_6_ k_) ∨ w.heap.size ≤ k_) ∧ some k_ ≠ (.slice Ao125 t301.length co125 : Value).ownBlock ∧ k_ ≠ gb262 ∧ k_ ≠ gb291)) (Ext.nV (Kd.V_mono HO_263005.out (fun _ hk => ⟨⟨hk.1.1.1, ⟨hk.2, ⟨hk.1.1.2.1, hk.1.1.2.2⟩⟩⟩, hk.1.2⟩))) hg hat); replace HO_263006 := Ext.a (Kd.V_afterv (ok := (fun k_ => ((P0_3_ k_ ∨ P0_4_ k_ ∨ P0_5_ k_ ∨ P0_6_ k_) ∨ w.heap.size ≤ k_) ∧ some k_ ≠ (.slice Ao125 t301.length co125 : Value).ownBlock ∧ k_ ≠ gb262 ∧ k_ ≠ gb291)) (Ext.nV (Kd.V_mono HO_263006.out (fun _ hk => ⟨⟨hk.1.1.1, ⟨hk.2, ⟨hk.1.1.2.1, hk.1.1.2.2⟩⟩⟩, hk.1.2⟩))) hg hat); replace HO_292000 := Ext.a (Kd.V_afterv (ok := (fun k_ => ((P0_3_ k_ ∨ P0_4_ k_ ∨ P0_5_ k_ ∨ P0_6_ k_) ∨ w.heap.size ≤ k_) ∧ some k_ ≠ (.slice Ao125 t301.length co125 : Value).ownBlock ∧ k_ ≠ gb262 ∧ k_ ≠ gb291)) (Ext.nV (Kd.V_mono HO_292000.out (fun _ hk => ⟨⟨hk.1.1.1, ⟨hk.2, ⟨hk.1.1.2.1, hk.1.1.2.2⟩⟩⟩, hk.1.2⟩))) hg hat); replace BK262 := Ext.a (blk_grown BK262.out hg (Kd.R_ne HO300.out BK262.out (by decide))); replace BK291 := Ext.a (blk_grown BK291.out hg (Kd.R_ne HO300.out BK291.out (by decide))); replace HO303 := Ext.a (Kd.R_after (ok := (ok27_0 w)) (Ext.nR (Kd.R_mono HO303.out (fun _ hk => ⟨hk.1.1, hk.2⟩))) hg hat); replace HB := Ext.a (hb); have HO306 := Ext.a (ho); clear HO300; clear ho hb hg hat))
               go_roundg kj94
               case measure => have := HK1.out; have := HJ94.out; omega
               case rel => exact ⟨(y304), (wrap64 (x134_1 + 1)), (by first | rfl | (simp; done) | (simp [*]; done)), H', ⟨by have := HK1.out; have := HJ94.out; omega⟩, ⟨by (with_reducible repeat (first | apply Kd.R_alloc | apply Kd.R_drewN | apply Kd.R_drew)); exact Kd.R_mono HO306.out (fun _ hk => hk.1)⟩, ⟨by (with_reducible repeat (first | apply Kd.V_alloc | apply Kd.V_drewN | apply Kd.V_drew)); exact Kd.V_mono HO_132.out (fun _ hk => ⟨hk.1.1, ⟨hk.2, hk.1.2.2.1⟩⟩)⟩, ⟨by (with_reducible repeat (first | apply Kd.V_alloc | apply Kd.V_drewN | apply Kd.V_drew)); exact Kd.V_mono HO_263003.out (fun _ hk => ⟨hk.1.1, ⟨hk.2, hk.1.2.2.1⟩⟩)⟩, ⟨by (with_reducible repeat (first | apply Kd.V_alloc | apply Kd.V_drewN | apply Kd.V_drew)); exact Kd.V_mono HO_263004.out (fun _ hk => ⟨hk.1.1, ⟨hk.2, hk.1.2.2.1⟩⟩)⟩, ⟨by (with_reducible repeat (first | apply Kd.V_alloc | apply Kd.V_drewN | apply Kd.V_drew)); exact Kd.V_mono HO_263005.out (fun _ hk => ⟨hk.1.1, ⟨hk.2, hk.1.2.2.1⟩⟩)⟩, ⟨by (with_reducible repeat (first | apply Kd.V_alloc | apply Kd.V_drewN | apply Kd.V_drew)); exact Kd.V_mono HO_263006.out (fun _ hk => ⟨hk.1.1, ⟨hk.2, hk.1.2.2.1⟩⟩)⟩, ⟨by exact BK262.out⟩, ⟨by exact Ext.s2 GE262.out GE291.out HB.out⟩⟩
              · rw [if_neg c116] at H; exact absurd H (by simp)
             · rw [if_neg c114] at H; exact absurd H (by simp)
            · rw [if_neg c113] at H; exact absurd H (by simp)
        · rw [if_neg c94] at H; exact absurd H (by simp)
       · rw [if_neg c93] at H; exact absurd H (by simp)
      ·
       rw [if_neg c92] at H; have c92b0 := decide_eq_false c92; clear c92; have H' := Aside0.mk H; clear H
       as_aux_lemma =>
        go_wp2
        go_meet
        case rel => exact ⟨_, (x5_1), ((l0_4.length : Int)), (by first | rfl | (simp; done) | (simp [*]; done)), H', ⟨by have := HK1.out; first | omega | exact Nat.le_refl _⟩, ⟨by exact Ext.nR HO_5.out⟩, ⟨by (with_reducible repeat (first | apply Kd.V_alloc | apply Kd.V_drewN | apply Kd.V_drew)); exact HO_263003.out⟩, ⟨by (with_reducible repeat (first | apply Kd.V_alloc | apply Kd.V_drewN | apply Kd.V_drew)); exact HO_263004.out⟩, ⟨by (with_reducible repeat (first | apply Kd.V_alloc | apply Kd.V_drewN | apply Kd.V_drew)); exact HO_263005.out⟩, ⟨by (with_reducible repeat (first | apply Kd.V_alloc | apply Kd.V_drewN | apply Kd.V_drew)); exact HO_263006.out⟩, ⟨by exact BK262.out⟩, ⟨by exact Ext.s1 GE262.out HB.out⟩⟩
   ·
    rw [if_neg c90] at H; obtain ⟨c90b0, c90b1⟩ := Ext.eF c90
    by_cases c126 : a0_0 = 3
    ·
     rw [if_pos c126] at H; obtain ⟨c126b0, c126b1⟩ := Ext.eT c126; clear c126
     by_cases c127 : y263.length + l0_5.length < 140737488355328
     ·
      rw [if_pos c127] at H; have LMc127 := Aside0.mk c127; clear c127; obtain ⟨y307, hy307⟩ : ∃ y_ : List Int, y_ = (y263 ++ l0_5) := ⟨_, rfl⟩
      replace H : (terrierref04_room.j7 k y307 (l0_5.length : Int) a0_0 a0_1 a0_2 l0_3 l0_4 l0_5 l0_6) = some (r1, r2, r3) := by first | (rw [hy307]; with_reducible exact H) | (have H2_ := (Option.bind_some _ _).symm.trans H; rw [hy307]; with_reducible exact H2_) | (have H2_ := (Option.bind_some _ _).symm.trans H; with_reducible exact H2_) | with_reducible exact H | (rw [hy307]; exact H) | exact H
      have Ny307 := Aside0.mk hy307; clear hy307; have H' := Aside0.mk H; clear H; have hcz128 := Ext.cells7 BK262.out; have hfz128 := Ext.froz7 BK262.out
      go_wp2_with (first | ((with_reducible refine gate_builtin (b := .append) (xs := #[.tmp 189, .tmp 191]) rfl ?_); (try (refine gate_guard (by rfl) ?_; dsimp only)); at_builtin; refine Kd.R_append_rows (Kd.int .u8) (w0 := w) w.heap.size rfl (.tmp 189) (.tmp 191) 25 5 (.int .u8 0) 1 rfl Try.underlying25 info5 rfl (by decide) (by omega) v264 y263 l0_5 _ _ _ (ok27_0 w) (fun _ => False) rfl rfl ?aO ?aR (fun _ _ h => h) (fun _ h => h.elim) ?aF ?aB ?aS ?aL ?_; (case aR => exact Ext.nC (Kd.V_reads' HO0_5.out).2.2); (case aB => exact (Ext.s1 GE262.out HB.out)); (case aF => exact (fun k_ hk => (Nat.le_trans (below_size (Ext.s1 GE262.out HB.out)) hk))); (case aO => exact (Ext.nR (Kd.R_mono HO265.out (fun _ hk => hk.1)))); (case aS => exact (below_size (Ext.s1 GE262.out HB.out))); (case aL => have := LMc127.out; omega); intro v308 w129 ho hb hg hat; rw [← Ny307.out] at ho; replace HO0_3 := Ext.a (Kd.V_afterv (ok := (fun k_ => ((P0_3_ k_ ∨ P0_4_ k_ ∨ P0_5_ k_ ∨ P0_6_ k_) ∨ w.heap.size ≤ k_) ∧ k_ ≠ gb262)) (Ext.nV HO0_3.out) hg hat); replace HO0_4 := Ext.a (Kd.V_afterv (ok := (fun k_ => ((P0_3_ k_ ∨ P0_4_ k_ ∨ P0_5_ k_ ∨ P0_6_ k_) ∨ w.heap.size ≤ k_) ∧ k_ ≠ gb262)) (Ext.nV HO0_4.out) hg hat); replace HO0_5 := Ext.a (Kd.V_afterv (ok := (fun k_ => ((P0_3_ k_ ∨ P0_4_ k_ ∨ P0_5_ k_ ∨ P0_6_ k_) ∨ w.heap.size ≤ k_) ∧ k_ ≠ gb262)) (Ext.nV HO0_5.out) hg hat); replace HO0_6 := Ext.a (Kd.V_afterv (ok := (fun k_ => ((P0_3_ k_ ∨ P0_4_ k_ ∨ P0_5_ k_ ∨ P0_6_ k_) ∨ w.heap.size ≤ k_) ∧ k_ ≠ gb262)) (Ext.nV HO0_6.out) hg hat); replace BK262 := Ext.a (blk_grown BK262.out hg (Kd.R_ne HO265.out BK262.out (by decide))); replace HB := Ext.a (hb); have HO309 := Ext.a (ho); clear HO265; clear ho hb hg hat))
      go_meet
      case rel => exact ⟨_, (y307), ((l0_5.length : Int)), (by first | rfl | (simp; done) | (simp [*]; done)), H', ⟨by first | omega | exact Nat.le_refl _⟩, ⟨by exact Ext.nR HO309.out⟩, ⟨by (with_reducible repeat (first | apply Kd.V_alloc | apply Kd.V_drewN | apply Kd.V_drew)); exact Kd.V_mono HO0_3.out (fun _ hk => ⟨hk.1.1, ⟨hk.2, hk.1.2⟩⟩)⟩, ⟨by (with_reducible repeat (first | apply Kd.V_alloc | apply Kd.V_drewN | apply Kd.V_drew)); exact Kd.V_mono HO0_4.out (fun _ hk => ⟨hk.1.1, ⟨hk.2, hk.1.2⟩⟩)⟩, ⟨by (with_reducible repeat (first | apply Kd.V_alloc | apply Kd.V_drewN | apply Kd.V_drew)); exact Kd.V_mono HO0_5.out (fun _ hk => ⟨hk.1.1, ⟨hk.2, hk.1.2⟩⟩)⟩, ⟨by (with_reducible repeat (first | apply Kd.V_alloc | apply Kd.V_drewN | apply Kd.V_drew)); exact Kd.V_mono HO0_6.out (fun _ hk => ⟨hk.1.1, ⟨hk.2, hk.1.2⟩⟩)⟩, ⟨by exact BK262.out⟩, ⟨by exact Ext.s1 GE262.out HB.out⟩⟩
     · rw [if_neg c127] at H; exact absurd H (by simp)
    ·
     rw [if_neg c126] at H; obtain ⟨c126b0, c126b1⟩ := Ext.eF c126
     by_cases c130 : a0_0 = 4
     ·
      rw [if_pos c130] at H; obtain ⟨c130b0, c130b1⟩ := Ext.eT c130; clear c130; have H' := Aside0.mk H; clear H; have hcz131 := Ext.cells7 BK262.out; have hfz131 := Ext.froz7 BK262.out
      go_wp2
      go_loopg [5, 201] k (fun kq v5 v201 w' => ∃ (x5_1 : List Int) (x201_1 : Int), v201 = .int .i64 x201_1 ∧ Aside0 (terrierref04_room.l2 kq x5_1 (l0_6.length : Int) l0_6 (l0_6.length : Int) x201_1 a0_0 a0_1 a0_2 l0_3 l0_4 l0_5 l0_6 = some (r1, r2, r3)) ∧ Aside0 (kq ≤ k) ∧ Aside0 (Kd.R (Kd.int .u8) 5 w' w.heap.size (ok27_0 w) v5 x5_1) ∧ Aside0 (Kd.V (Kd.int .i64) 3 w' w.heap.size (fun k_ => ((P0_3_ k_ ∨ P0_4_ k_ ∨ P0_5_ k_ ∨ P0_6_ k_) ∨ w.heap.size ≤ k_) ∧ some k_ ≠ (v5 : Value).ownBlock ∧ k_ ≠ gb262) (.slice A0_6 l0_6.length c0_6) l0_6) ∧ Aside0 (Kd.V k61 61 w' w.heap.size (fun k_ => ((P0_3_ k_ ∨ P0_4_ k_ ∨ P0_5_ k_ ∨ P0_6_ k_) ∨ w.heap.size ≤ k_) ∧ some k_ ≠ (v5 : Value).ownBlock ∧ k_ ≠ gb262) (.slice A0_3 l0_3.length c0_3) l0_3) ∧ Aside0 (Kd.V k62 62 w' w.heap.size (fun k_ => ((P0_3_ k_ ∨ P0_4_ k_ ∨ P0_5_ k_ ∨ P0_6_ k_) ∨ w.heap.size ≤ k_) ∧ some k_ ≠ (v5 : Value).ownBlock ∧ k_ ≠ gb262) (.slice A0_4 l0_4.length c0_4) l0_4) ∧ Aside0 (Kd.V (Kd.int .u8) 5 w' w.heap.size (fun k_ => ((P0_3_ k_ ∨ P0_4_ k_ ∨ P0_5_ k_ ∨ P0_6_ k_) ∨ w.heap.size ≤ k_) ∧ some k_ ≠ (v5 : Value).ownBlock ∧ k_ ≠ gb262) (.slice A0_5 l0_5.length c0_5) l0_5) ∧ Aside0 (Kd.V (Kd.int .i64) 3 w' w.heap.size (fun k_ => ((P0_3_ k_ ∨ P0_4_ k_ ∨ P0_5_ k_ ∨ P0_6_ k_) ∨ w.heap.size ≤ k_) ∧ some k_ ≠ (v5 : Value).ownBlock ∧ k_ ≠ gb262) (.slice A0_6 l0_6.length c0_6) l0_6) ∧ Aside0 (w'.heap[gb262]? = some (.cells #[.int .i64 a0_0, .int .u64 a0_1, .int .i64 a0_2, (.slice A0_3 l0_3.length c0_3), (.slice A0_4 l0_4.length c0_4), (.slice A0_5 l0_5.length c0_5), (.slice A0_6 l0_6.length c0_6)] 34 (0, 0))) ∧ Aside0 (Below w.heap.size w w'))
      case atStart => exact ⟨(y263), (0), (by first | rfl | (simp; done) | (simp [*]; done)), H', ⟨Nat.le_refl _⟩, ⟨by (with_reducible repeat (first | apply Kd.R_alloc | apply Kd.R_drewN | apply Kd.R_drew)); exact Kd.R_mono HO265.out (fun _ hk => hk.1)⟩, ⟨by (with_reducible repeat (first | apply Kd.V_alloc | apply Kd.V_drewN | apply Kd.V_drew)); exact Kd.V_mono HO0_6.out (fun _ hk => ⟨hk.1.1, ⟨hk.2, hk.1.2⟩⟩)⟩, ⟨by (with_reducible repeat (first | apply Kd.V_alloc | apply Kd.V_drewN | apply Kd.V_drew)); exact Kd.V_mono HO0_3.out (fun _ hk => ⟨hk.1.1, ⟨hk.2, hk.1.2⟩⟩)⟩, ⟨by (with_reducible repeat (first | apply Kd.V_alloc | apply Kd.V_drewN | apply Kd.V_drew)); exact Kd.V_mono HO0_4.out (fun _ hk => ⟨hk.1.1, ⟨hk.2, hk.1.2⟩⟩)⟩, ⟨by (with_reducible repeat (first | apply Kd.V_alloc | apply Kd.V_drewN | apply Kd.V_drew)); exact Kd.V_mono HO0_5.out (fun _ hk => ⟨hk.1.1, ⟨hk.2, hk.1.2⟩⟩)⟩, ⟨by (with_reducible repeat (first | apply Kd.V_alloc | apply Kd.V_drewN | apply Kd.V_drew)); exact Kd.V_mono HO0_6.out (fun _ hk => ⟨hk.1.1, ⟨hk.2, hk.1.2⟩⟩)⟩, ⟨by exact BK262.out⟩, ⟨by exact Ext.s1 GE262.out HB.out⟩⟩
      case round => as_aux_lemma =>
       clear H'; (try clear c12 c13 c90b0 c90b1 c92b0 c117 c126b0 c126b1 c130b0 c130b1 hcz118_0 hcz118_1 hcz120_0 hcz120_1 hcz122_0 hcz122_1 hcz128 hcz131 hfz118_0 hfz118_1 hfz120_0 hfz120_1 hfz122_0 hfz122_1 hfz128 hfz131); obtain ⟨x5_1, x201_1, rfl, HA, HK1, HO_5, HO_199, HO_263003, HO_263004, HO_263005, HO_263006, BK262, HB⟩ := hrel; cases gk with
       | zero => exact absurd HA.out (by simp [terrierref04_room.l2])
       | succ k1 =>
        have H := HA.out; clear HA; simp only [terrierref04_room.l2] at H
        by_cases c132 : x201_1 < (l0_6.length : Int)
        ·
         rw [if_pos c132] at H; have c132b0 := decide_eq_true c132; clear c132
         by_cases c133 : 0 ≤ x201_1
         ·
          rw [if_pos c133] at H; have c133b0 := decide_eq_true c133; clear c133
          by_cases c134 : x201_1 < (l0_6.length : Int)
          ·
           rw [if_pos c134] at H; have c134b0 := decide_eq_true c134; clear c134; have HC135 := Aside0.mk H; clear H; have p310 : 0 ≤ (x201_1 : Int) := of_decide_eq_true (by first | (with_reducible assumption) | assumption); have q310 : x201_1 < (l0_6.length : Int) := of_decide_eq_true (by first | (with_reducible assumption) | assumption); obtain ⟨ad310, e310, hx310_0⟩ := Kd.at_int (Kd.V_reads' HO_199.out).2.2 x201_1 p310 q310; cases e310; replace p310 := eq_true p310; replace q310 := eq_true q310
           go_upto_region 39 with (fail)
           go_cut [222] (fun v222 wc => ∃ (kq : Nat) (x222_134 : Bool), v222 = .bool x222_134 ∧ Aside0 (terrierref04_room.j6 kq x5_1 (l0_6.length : Int) (rd l0_6 x201_1) l0_6 (l0_6.length : Int) x201_1 x222_134 a0_0 a0_1 a0_2 l0_3 l0_4 l0_5 l0_6 = some (r1, r2, r3)) ∧ Aside0 (kq ≤ k1) ∧ Aside0 (Kd.R (Kd.int .u8) 5 wc w.heap.size (ok27_0 w) u5 x5_1) ∧ Aside0 (Kd.V (Kd.int .i64) 3 wc w.heap.size (fun k_ => ((P0_3_ k_ ∨ P0_4_ k_ ∨ P0_5_ k_ ∨ P0_6_ k_) ∨ w.heap.size ≤ k_) ∧ some k_ ≠ (u5 : Value).ownBlock ∧ k_ ≠ gb262) (.slice (some ad310) l0_6.length c0_6) l0_6) ∧ Aside0 (Kd.V k61 61 wc w.heap.size (fun k_ => ((P0_3_ k_ ∨ P0_4_ k_ ∨ P0_5_ k_ ∨ P0_6_ k_) ∨ w.heap.size ≤ k_) ∧ some k_ ≠ (u5 : Value).ownBlock ∧ k_ ≠ gb262) (.slice A0_3 l0_3.length c0_3) l0_3) ∧ Aside0 (Kd.V k62 62 wc w.heap.size (fun k_ => ((P0_3_ k_ ∨ P0_4_ k_ ∨ P0_5_ k_ ∨ P0_6_ k_) ∨ w.heap.size ≤ k_) ∧ some k_ ≠ (u5 : Value).ownBlock ∧ k_ ≠ gb262) (.slice A0_4 l0_4.length c0_4) l0_4) ∧ Aside0 (Kd.V (Kd.int .u8) 5 wc w.heap.size (fun k_ => ((P0_3_ k_ ∨ P0_4_ k_ ∨ P0_5_ k_ ∨ P0_6_ k_) ∨ w.heap.size ≤ k_) ∧ some k_ ≠ (u5 : Value).ownBlock ∧ k_ ≠ gb262) (.slice A0_5 l0_5.length c0_5) l0_5) ∧ Aside0 (Kd.V (Kd.int .i64) 3 wc w.heap.size (fun k_ => ((P0_3_ k_ ∨ P0_4_ k_ ∨ P0_5_ k_ ∨ P0_6_ k_) ∨ w.heap.size ≤ k_) ∧ some k_ ≠ (u5 : Value).ownBlock ∧ k_ ≠ gb262) (.slice (some ad310) l0_6.length c0_6) l0_6) ∧ Aside0 (wc.heap[gb262]? = some (.cells #[.int .i64 a0_0, .int .u64 a0_1, .int .i64 a0_2, (.slice A0_3 l0_3.length c0_3), (.slice A0_4 l0_4.length c0_4), (.slice A0_5 l0_5.length c0_5), (.slice (some ad310) l0_6.length c0_6)] 34 (0, 0))) ∧ Aside0 (Below w.heap.size w wc))
           case first => as_aux_lemma =>
            have H := HC135.out; clear HC135; replace H := Option.bind_eq_some_iff.mp H; obtain ⟨t311, A1360, H⟩ := H; (try dsimp only at H); have A136 := Aside0.mk A1360; clear A1360
            by_cases c137 : t311 = true
            ·
             subst c137; rw [if_pos rfl] at H
             by_cases c138 : x201_1 > 0
             ·
              rw [if_pos c138] at H; have c138b0 := decide_eq_true c138; clear c138
              (first | rw [c138b0] | (simp only [i64_w, i32_w]; rw [c138b0]) | skip)
              obtain ⟨ji139, hji139⟩ : ∃ j_ : Int, (wrap64 (x201_1 - 1)) = j_ := ⟨_, rfl⟩
              replace H : (if 0 ≤ (ji139) then (if (ji139) < (l0_6.length : Int) then (terrierref04_room.j6 k1 x5_1 (l0_6.length : Int) (rd l0_6 x201_1) l0_6 (l0_6.length : Int) x201_1 (decide ((rd l0_6 (ji139)) ≥ (rd l0_6 x201_1))) a0_0 a0_1 a0_2 l0_3 l0_4 l0_5 l0_6) else (none)) else (none)) = some (r1, r2, r3) := by first | (rw [hji139] at H; exact H) | (simp only [hji139] at H ⊢; exact H)
              (try rw [hji139] at A136); have hji139w : (IntKind.i64.wrap (x201_1 - 1)) = ji139 := (i64_w _).trans hji139
              by_cases c140 : 0 ≤ (ji139)
              ·
               rw [if_pos c140] at H; have c140b0 := decide_eq_true c140; clear c140
               by_cases c141 : (ji139) < (l0_6.length : Int)
               ·
                rw [if_pos c141] at H; have c141b0 := decide_eq_true c141; clear c141; have H' := Aside0.mk H; clear H
                go_wp2_with (first | ((with_reducible refine gate_callee (f := 44) rfl ?_); refine Ext.gs (some 207) rfl rfl Try.func44 #[.int .i64 (rd l0_6 x201_1)] rfl ?_; (with_reducible refine (terrierref04_id.calls (rd l0_6 x201_1) true _ A136.out).mono ?_); rintro e w' ⟨rfl, ⟨nd, rfl⟩⟩; refine ⟨_, rfl, ?_⟩; have hcz142 := Ext.cells7 BK262.out; have hfz142 := Ext.froz7 BK262.out; have p312 : 0 ≤ ((ji139) : Int) := of_decide_eq_true (by first | (with_reducible assumption) | assumption); have q312 : (ji139) < (l0_6.length : Int) := of_decide_eq_true (by first | (with_reducible assumption) | assumption); obtain ⟨ad312, e312, hx312_0⟩ := Kd.at_int (Kd.V_reads' HO_263006.out).2.2 (ji139) p312 q312; obtain rfl : ad310 = ad312 := (by injection e312); replace p312 := eq_true p312; replace q312 := eq_true q312))
                go_meet
                case rel => exact ⟨_, (decide ((rd l0_6 (ji139)) ≥ (rd l0_6 x201_1))), (by first | rfl | (simp; done) | (simp only [← hji139] <;> (first | rfl | simp)) | (simp [*]; done)), H', ⟨by have := HK1.out; first | omega | exact Nat.le_refl _⟩, ⟨by exact Ext.nR HO_5.out⟩, ⟨by (with_reducible repeat (first | apply Kd.V_alloc | apply Kd.V_drewN | apply Kd.V_drew)); exact HO_199.out⟩, ⟨by (with_reducible repeat (first | apply Kd.V_alloc | apply Kd.V_drewN | apply Kd.V_drew)); exact HO_263003.out⟩, ⟨by (with_reducible repeat (first | apply Kd.V_alloc | apply Kd.V_drewN | apply Kd.V_drew)); exact HO_263004.out⟩, ⟨by (with_reducible repeat (first | apply Kd.V_alloc | apply Kd.V_drewN | apply Kd.V_drew)); exact HO_263005.out⟩, ⟨by (with_reducible repeat (first | apply Kd.V_alloc | apply Kd.V_drewN | apply Kd.V_drew)); exact HO_263006.out⟩, ⟨by (with_reducible repeat (first | refine blk_drewN ?_ _ | refine blk_drew ?_ | refine blk_alloc ?_ _)); exact BK262.out⟩, ⟨by exact Ext.s1 GE262.out HB.out⟩⟩
               · rw [if_neg c141] at H; exact absurd H (by simp)
              · rw [if_neg c140] at H; exact absurd H (by simp)
             ·
              rw [if_neg c138] at H; have c138b0 := decide_eq_false c138; clear c138
              (first | rw [c138b0] | (simp only [i64_w, i32_w]; rw [c138b0]) | skip)
              have H' := Aside0.mk H; clear H
              go_wp2_with (first | ((with_reducible refine gate_callee (f := 44) rfl ?_); refine Ext.gs (some 207) rfl rfl Try.func44 #[.int .i64 (rd l0_6 x201_1)] rfl ?_; (with_reducible refine (terrierref04_id.calls (rd l0_6 x201_1) true _ A136.out).mono ?_); rintro e w' ⟨rfl, ⟨nd, rfl⟩⟩; refine ⟨_, rfl, ?_⟩))
              go_meet
              case rel => exact ⟨_, (false), (by first | rfl | (simp; done) | (simp [*]; done)), H', ⟨by have := HK1.out; first | omega | exact Nat.le_refl _⟩, ⟨by exact Ext.nR HO_5.out⟩, ⟨by (with_reducible repeat (first | apply Kd.V_alloc | apply Kd.V_drewN | apply Kd.V_drew)); exact HO_199.out⟩, ⟨by (with_reducible repeat (first | apply Kd.V_alloc | apply Kd.V_drewN | apply Kd.V_drew)); exact HO_263003.out⟩, ⟨by (with_reducible repeat (first | apply Kd.V_alloc | apply Kd.V_drewN | apply Kd.V_drew)); exact HO_263004.out⟩, ⟨by (with_reducible repeat (first | apply Kd.V_alloc | apply Kd.V_drewN | apply Kd.V_drew)); exact HO_263005.out⟩, ⟨by (with_reducible repeat (first | apply Kd.V_alloc | apply Kd.V_drewN | apply Kd.V_drew)); exact HO_263006.out⟩, ⟨by (with_reducible repeat (first | refine blk_drewN ?_ _ | refine blk_drew ?_ | refine blk_alloc ?_ _)); exact BK262.out⟩, ⟨by exact Ext.s1 GE262.out HB.out⟩⟩
            ·
             replace c137 := Bool.eq_false_iff.mpr c137; subst c137; rw [if_neg Bool.false_ne_true] at H; have H' := Aside0.mk H; clear H
             go_wp2_with (first | ((with_reducible refine gate_callee (f := 44) rfl ?_); refine Ext.gs (some 207) rfl rfl Try.func44 #[.int .i64 (rd l0_6 x201_1)] rfl ?_; (with_reducible refine (terrierref04_id.calls (rd l0_6 x201_1) false _ A136.out).mono ?_); rintro e w' ⟨rfl, ⟨nd, rfl⟩⟩; refine ⟨_, rfl, ?_⟩))
             go_meet
             case rel => exact ⟨_, (true), (by first | rfl | (simp; done) | (simp [*]; done)), H', ⟨by have := HK1.out; first | omega | exact Nat.le_refl _⟩, ⟨by exact Ext.nR HO_5.out⟩, ⟨by (with_reducible repeat (first | apply Kd.V_alloc | apply Kd.V_drewN | apply Kd.V_drew)); exact HO_199.out⟩, ⟨by (with_reducible repeat (first | apply Kd.V_alloc | apply Kd.V_drewN | apply Kd.V_drew)); exact HO_263003.out⟩, ⟨by (with_reducible repeat (first | apply Kd.V_alloc | apply Kd.V_drewN | apply Kd.V_drew)); exact HO_263004.out⟩, ⟨by (with_reducible repeat (first | apply Kd.V_alloc | apply Kd.V_drewN | apply Kd.V_drew)); exact HO_263005.out⟩, ⟨by (with_reducible repeat (first | apply Kd.V_alloc | apply Kd.V_drewN | apply Kd.V_drew)); exact HO_263006.out⟩, ⟨by (with_reducible repeat (first | refine blk_drewN ?_ _ | refine blk_drew ?_ | refine blk_alloc ?_ _)); exact BK262.out⟩, ⟨by exact Ext.s1 GE262.out HB.out⟩⟩
           case rest => as_aux_lemma =>
            clear HC135; (try clear p3 q3 hx3 p31 q31 hx31 c132b0 c133b0 c134b0 c138b0 c140b0 c141b0 hcz142 hfz142 hx310_0 hx312_0 p310 p312 q310 q312); obtain ⟨kq, x222_134, rfl, HA, HJ134, HO_5, HO_199, HO_263003, HO_263004, HO_263005, HO_263006, BK262, HB⟩ := hcut; cases kq with
            | zero => exact absurd HA.out (by simp [terrierref04_room.j6])
            | succ kj134 =>
             have H := HA.out; clear HA; simp only [terrierref04_room.j6] at H
             by_cases c143 : x222_134 = true
             ·
              subst c143; rw [if_pos rfl] at H; simp only [Option.some.injEq, Prod.mk.injEq] at H; obtain ⟨rfl, rfl, rfl⟩ := H
              as_aux_lemma =>
               go_wp2
               go_ret3
               exact ⟨_, by first | rfl | (simp [errW_none, errW_some] <;> rfl) | (simp [*, errW_none, errW_some] <;> rfl), by first | exact Ext.nl | exact Kd.R_nil _ _ _ _ _, by exact Ext.s1 GE262.out HB.out⟩
             ·
              replace c143 := Bool.eq_false_iff.mpr c143; subst c143; rw [if_neg Bool.false_ne_true] at H; replace H := Option.bind_eq_some_iff.mp H; obtain ⟨t313, A1440, H⟩ := H; (try dsimp only at H); have A144 := Aside0.mk A1440; clear A1440
              by_cases c145 : x5_1.length + t313.length < 140737488355328
              ·
               rw [if_pos c145] at H; have LMc145 := Aside0.mk c145; clear c145; obtain ⟨y316, hy316⟩ : ∃ y_ : List Int, y_ = (x5_1 ++ t313) := ⟨_, rfl⟩
               replace H : (terrierref04_room.l2 kj134 y316 (l0_6.length : Int) l0_6 (l0_6.length : Int) (wrap64 (x201_1 + 1)) a0_0 a0_1 a0_2 l0_3 l0_4 l0_5 l0_6) = some (r1, r2, r3) := by first | (rw [hy316]; with_reducible exact H) | (have H2_ := (Option.bind_some _ _).symm.trans H; rw [hy316]; with_reducible exact H2_) | (have H2_ := (Option.bind_some _ _).symm.trans H; with_reducible exact H2_) | with_reducible exact H | (rw [hy316]; exact H) | exact H
               have Ny316 := Aside0.mk hy316; clear hy316; have H' := Aside0.mk H; clear H
               go_wp2_with (first | ((with_reducible refine gate_callee (f := 32) rfl ?_); refine Ext.gs (some 226) rfl rfl Try.func32 #[.int .u64 (IntKind.u64.wrap ((rd l0_6 x201_1))), .int .i64 4] rfl ?_; (with_reducible refine (terrierref01_Put.calls kj134 (IntKind.u64.wrap ((rd l0_6 x201_1))) 4 t313 _ A144.out).mono ?_); rintro e w146 ⟨v314, rfl, ho0, hb⟩; refine ⟨_, rfl, ?_⟩; replace HO_199 := Ext.a (Kd.V_elder' (Ext.nV HO_199.out) (Kd.R_base ho0) hb); replace HO_263003 := Ext.a (Kd.V_elder' (Ext.nV HO_263003.out) (Kd.R_base ho0) hb); replace HO_263004 := Ext.a (Kd.V_elder' (Ext.nV HO_263004.out) (Kd.R_base ho0) hb); replace HO_263005 := Ext.a (Kd.V_elder' (Ext.nV HO_263005.out) (Kd.R_base ho0) hb); replace HO_263006 := Ext.a (Kd.V_elder' (Ext.nV HO_263006.out) (Kd.R_base ho0) hb); have HO315 := Ext.a (Kd.R_lower (Kd.R_new' (Kd.R_newM (M := fun k_ => (w.heap.size ≤ k_)) ho0 (below_size (Ext.s1 GE262.out HB.out)) (fun k_ h_ => h_)) (Kd.R_lt (Ext.nR HO_5.out))) (below_size (Ext.s1 GE262.out HB.out))); replace HO_5 := Ext.a (Kd.R_elder' (Ext.nR HO_5.out) (Kd.R_base ho0) hb); replace BK262 := Ext.a (blk_below BK262.out hb); replace HB := Ext.a (below_step (Ext.s1 GE262.out HB.out) hb); (try clear hb ho0); obtain ⟨Ao148, co148, eo148⟩ := Kd.R_slice HO315.out; subst eo148) | ((with_reducible refine gate_builtin (b := .append) (xs := #[.tmp 223, .tmp 226]) rfl ?_); (try (refine gate_guard (by rfl) ?_; dsimp only)); at_builtin; refine Kd.R_append_rows (Kd.int .u8) (w0 := w) w.heap.size rfl (.tmp 223) (.tmp 226) 25 5 (.int .u8 0) 1 rfl Try.underlying25 info5 rfl (by decide) (by omega) u5 x5_1 t313 _ _ _ (ok27_1 w (.slice Ao148 t313.length co148)) (fun _ => False) rfl rfl ?aO ?aR (fun _ _ h => h) (fun _ h => h.elim) ?aF ?aB ?aS ?aL ?_; (case aR => exact Ext.nC (Kd.R_reads' HO315.out).2.2); (case aB => exact (Ext.s1 GE262.out HB.out)); (case aF => exact (fun k_ hk => ⟨(Nat.le_trans (below_size (Ext.s1 GE262.out HB.out)) hk), Kd.fresh' (Kd.R_lt (Ext.nR HO315.out)) k_ hk⟩)); (case aO => exact (Ext.nR HO_5.out)); (case aS => exact (below_size (Ext.s1 GE262.out HB.out))); (case aL => have := LMc145.out; omega); intro v317 w147 ho hb hg hat; rw [← Ny316.out] at ho; replace HO_199 := Ext.a (Kd.V_afterv (ok := (fun k_ => ((P0_3_ k_ ∨ P0_4_ k_ ∨ P0_5_ k_ ∨ P0_6_ k_) ∨ w.heap.size ≤ k_) ∧ some k_ ≠ (.slice Ao148 t313.length co148 : Value).ownBlock ∧ k_ ≠ gb262)) (Ext.nV (Kd.V_mono HO_199.out (fun _ hk => ⟨⟨hk.1.1, ⟨hk.2, hk.1.2.2⟩⟩, hk.1.2.1⟩))) hg hat); replace HO_263003 := Ext.a (Kd.V_afterv (ok := (fun k_ => ((P0_3_ k_ ∨ P0_4_ k_ ∨ P0_5_ k_ ∨ P0_6_ k_) ∨ w.heap.size ≤ k_) ∧ some k_ ≠ (.slice Ao148 t313.length co148 : Value).ownBlock ∧ k_ ≠ gb262)) (Ext.nV (Kd.V_mono HO_263003.out (fun _ hk => ⟨⟨hk.1.1, ⟨hk.2, hk.1.2.2⟩⟩, hk.1.2.1⟩))) hg hat); replace HO_263004 := Ext.a (Kd.V_afterv (ok := (fun k_ => ((P0_3_ k_ ∨ P0_4_ k_ ∨ P0_5_ k_ ∨ P0_6_ k_) ∨ w.heap.size ≤ k_) ∧ some k_ ≠ (.slice Ao148 t313.length co148 : Value).ownBlock ∧ k_ ≠ gb262)) (Ext.nV (Kd.V_mono HO_263004.out (fun _ hk => ⟨⟨hk.1.1, ⟨hk.2, hk.1.2.2⟩⟩, hk.1.2.1⟩))) hg hat); replace HO_263005 := Ext.a (Kd.V_afterv (ok := (fun k_ => ((P0_3_ k_ ∨ P0_4_ k_ ∨ P0_5_ k_ ∨ P0_6_ k_) ∨ w.heap.size ≤ k_) ∧ some k_ ≠ (.slice Ao148 t313.length co148 : Value).ownBlock ∧ k_ ≠ gb262)) (Ext.nV (Kd.V_mono HO_263005.out (fun _ hk => ⟨⟨hk.1.1, ⟨hk.2, hk.1.2.2⟩⟩, hk.1.2.1⟩))) hg hat); replace HO_263006 := Ext.a (Kd.V_afterv (ok := (fun k_ => ((P0_3_ k_ ∨ P0_4_ k_ ∨ P0_5_ k_ ∨ P0_6_ k_) ∨ w.heap.size ≤ k_) ∧ some k_ ≠ (.slice Ao148 t313.length co148 : Value).ownBlock ∧ k_ ≠ gb262)) (Ext.nV (Kd.V_mono HO_263006.out (fun _ hk => ⟨⟨hk.1.1, ⟨hk.2, hk.1.2.2⟩⟩, hk.1.2.1⟩))) hg hat); replace BK262 := Ext.a (blk_grown BK262.out hg (Kd.R_ne HO_5.out BK262.out (by decide))); replace HO315 := Ext.a (Kd.R_after (ok := (ok27_0 w)) (Ext.nR (Kd.R_mono HO315.out (fun _ hk => ⟨hk.1.1, hk.2⟩))) hg hat); replace HB := Ext.a (hb); have HO318 := Ext.a (ho); clear HO_5; clear ho hb hg hat))
               go_roundg kj134
               case measure => have := HK1.out; have := HJ134.out; omega
               case rel => exact ⟨(y316), (wrap64 (x201_1 + 1)), (by first | rfl | (simp; done) | (simp [*]; done)), H', ⟨by have := HK1.out; have := HJ134.out; omega⟩, ⟨by (with_reducible repeat (first | apply Kd.R_alloc | apply Kd.R_drewN | apply Kd.R_drew)); exact Kd.R_mono HO318.out (fun _ hk => hk.1)⟩, ⟨by (with_reducible repeat (first | apply Kd.V_alloc | apply Kd.V_drewN | apply Kd.V_drew)); exact Kd.V_mono HO_199.out (fun _ hk => ⟨hk.1.1, ⟨hk.2, hk.1.2.2⟩⟩)⟩, ⟨by (with_reducible repeat (first | apply Kd.V_alloc | apply Kd.V_drewN | apply Kd.V_drew)); exact Kd.V_mono HO_263003.out (fun _ hk => ⟨hk.1.1, ⟨hk.2, hk.1.2.2⟩⟩)⟩, ⟨by (with_reducible repeat (first | apply Kd.V_alloc | apply Kd.V_drewN | apply Kd.V_drew)); exact Kd.V_mono HO_263004.out (fun _ hk => ⟨hk.1.1, ⟨hk.2, hk.1.2.2⟩⟩)⟩, ⟨by (with_reducible repeat (first | apply Kd.V_alloc | apply Kd.V_drewN | apply Kd.V_drew)); exact Kd.V_mono HO_263005.out (fun _ hk => ⟨hk.1.1, ⟨hk.2, hk.1.2.2⟩⟩)⟩, ⟨by (with_reducible repeat (first | apply Kd.V_alloc | apply Kd.V_drewN | apply Kd.V_drew)); exact Kd.V_mono HO_263006.out (fun _ hk => ⟨hk.1.1, ⟨hk.2, hk.1.2.2⟩⟩)⟩, ⟨by exact BK262.out⟩, ⟨by exact Ext.s1 GE262.out HB.out⟩⟩
              · rw [if_neg c145] at H; exact absurd H (by simp)
          · rw [if_neg c134] at H; exact absurd H (by simp)
         · rw [if_neg c133] at H; exact absurd H (by simp)
        ·
         rw [if_neg c132] at H; have c132b0 := decide_eq_false c132; clear c132; have H' := Aside0.mk H; clear H
         as_aux_lemma =>
          go_wp2
          go_meet
          case rel => exact ⟨_, (x5_1), ((l0_6.length : Int)), (by first | rfl | (simp; done) | (simp [*]; done)), H', ⟨by have := HK1.out; first | omega | exact Nat.le_refl _⟩, ⟨by exact Ext.nR HO_5.out⟩, ⟨by (with_reducible repeat (first | apply Kd.V_alloc | apply Kd.V_drewN | apply Kd.V_drew)); exact HO_263003.out⟩, ⟨by (with_reducible repeat (first | apply Kd.V_alloc | apply Kd.V_drewN | apply Kd.V_drew)); exact HO_263004.out⟩, ⟨by (with_reducible repeat (first | apply Kd.V_alloc | apply Kd.V_drewN | apply Kd.V_drew)); exact HO_263005.out⟩, ⟨by (with_reducible repeat (first | apply Kd.V_alloc | apply Kd.V_drewN | apply Kd.V_drew)); exact HO_263006.out⟩, ⟨by exact BK262.out⟩, ⟨by exact Ext.s1 GE262.out HB.out⟩⟩
     ·
      rw [if_neg c130] at H; obtain ⟨c130b0, c130b1⟩ := Ext.eF c130; simp only [Option.some.injEq, Prod.mk.injEq] at H; obtain ⟨rfl, rfl, rfl⟩ := H
      as_aux_lemma =>
       go_wp2
       go_ret3
       exact ⟨_, by first | rfl | (simp [errW_none, errW_some] <;> rfl) | (simp [*, errW_none, errW_some] <;> rfl), by first | exact Ext.nl | exact Kd.R_nil _ _ _ _ _, by exact Ext.s1 GE262.out HB.out⟩
 case rest => as_aux_lemma =>
  clear HC2; (try clear c130b0 c130b1 c132b0); obtain ⟨kq, x5_1, x6_1, rfl, HA, HJ1, HO_5, HO_263003, HO_263004, HO_263005, HO_263006, BK262, HB⟩ := hcut; cases kq with
  | zero => exact absurd HA.out (by simp [terrierref04_room.j7])
  | succ kj1 =>
   have H := HA.out; clear HA; simp only [terrierref04_room.j7] at H; have HC149 := Aside0.mk H; clear H; have hcz150 := Ext.cells7 BK262.out; have hfz150 := Ext.froz7 BK262.out
   go_upto_region 44 with (fail)
   go_cut [281] (fun v281 wc => ∃ (kq : Nat) (x281_148 : Bool), v281 = .bool x281_148 ∧ Aside0 (terrierref04_room.j8 kq x5_1 x6_1 x281_148 = some (r1, r2, r3)) ∧ Aside0 (kq ≤ kj1) ∧ Aside0 (Kd.R (Kd.int .u8) 5 wc w.heap.size (ok27_0 w) u5 x5_1) ∧ Aside0 (Kd.V k61 61 wc w.heap.size (fun k_ => ((P0_3_ k_ ∨ P0_4_ k_ ∨ P0_5_ k_ ∨ P0_6_ k_) ∨ w.heap.size ≤ k_) ∧ some k_ ≠ (u5 : Value).ownBlock ∧ k_ ≠ gb262) (.slice A0_3 l0_3.length c0_3) l0_3) ∧ Aside0 (Kd.V k62 62 wc w.heap.size (fun k_ => ((P0_3_ k_ ∨ P0_4_ k_ ∨ P0_5_ k_ ∨ P0_6_ k_) ∨ w.heap.size ≤ k_) ∧ some k_ ≠ (u5 : Value).ownBlock ∧ k_ ≠ gb262) (.slice A0_4 l0_4.length c0_4) l0_4) ∧ Aside0 (Kd.V (Kd.int .u8) 5 wc w.heap.size (fun k_ => ((P0_3_ k_ ∨ P0_4_ k_ ∨ P0_5_ k_ ∨ P0_6_ k_) ∨ w.heap.size ≤ k_) ∧ some k_ ≠ (u5 : Value).ownBlock ∧ k_ ≠ gb262) (.slice A0_5 l0_5.length c0_5) l0_5) ∧ Aside0 (Kd.V (Kd.int .i64) 3 wc w.heap.size (fun k_ => ((P0_3_ k_ ∨ P0_4_ k_ ∨ P0_5_ k_ ∨ P0_6_ k_) ∨ w.heap.size ≤ k_) ∧ some k_ ≠ (u5 : Value).ownBlock ∧ k_ ≠ gb262) (.slice A0_6 l0_6.length c0_6) l0_6) ∧ Aside0 (wc.heap[gb262]? = some (.cells #[.int .i64 a0_0, .int .u64 a0_1, .int .i64 a0_2, (.slice A0_3 l0_3.length c0_3), (.slice A0_4 l0_4.length c0_4), (.slice A0_5 l0_5.length c0_5), (.slice A0_6 l0_6.length c0_6)] 34 (0, 0))) ∧ Aside0 (Below w.heap.size w wc))
   case first => as_aux_lemma =>
    have H := HC149.out; clear HC149
    by_cases c151 : x6_1 = 0
    ·
     rw [if_pos c151] at H; obtain ⟨c151b0, c151b1⟩ := Ext.eT c151; clear c151
     (first | rw [c151b0] | (simp only [i64_w, i32_w]; rw [c151b0]) | skip)
     by_cases c152 : a0_0 = 4
     ·
      rw [if_pos c152] at H; obtain ⟨c152b0, c152b1⟩ := Ext.eT c152; clear c152
      by_cases c153 : (wrap64 ((wrap64 ((wrap64 ((wrap64 ((l0_3.length : Int) + (l0_4.length : Int))) + (l0_5.length : Int))) + (l0_6.length : Int))) - x6_1)) = 0
      ·
       rw [if_pos c153] at H; obtain ⟨c153b0, c153b1⟩ := Ext.eT c153; clear c153
       by_cases c154 : (x5_1.length : Int) > 237
       ·
        rw [if_pos c154] at H; have c154b0 := decide_eq_true c154; have c154b1 : decide (237 < x5_1.length) = true := decide_eq_true (by omega); clear c154; have H' := Aside0.mk H; clear H; have hcz155 := Ext.cells7 BK262.out; have hfz155 := Ext.froz7 BK262.out; obtain ⟨Ao156, co156, eo156⟩ := Kd.R_slice HO_5.out; subst eo156
        as_aux_lemma =>
         go_wp2
         go_meet
         case rel => exact ⟨_, (true), (by first | rfl | (simp; done) | (simp [*]; done)), H', ⟨by have := HJ1.out; first | omega | exact Nat.le_refl _⟩, ⟨by exact Ext.nR HO_5.out⟩, ⟨by (with_reducible repeat (first | apply Kd.V_alloc | apply Kd.V_drewN | apply Kd.V_drew)); exact HO_263003.out⟩, ⟨by (with_reducible repeat (first | apply Kd.V_alloc | apply Kd.V_drewN | apply Kd.V_drew)); exact HO_263004.out⟩, ⟨by (with_reducible repeat (first | apply Kd.V_alloc | apply Kd.V_drewN | apply Kd.V_drew)); exact HO_263005.out⟩, ⟨by (with_reducible repeat (first | apply Kd.V_alloc | apply Kd.V_drewN | apply Kd.V_drew)); exact HO_263006.out⟩, ⟨by exact BK262.out⟩, ⟨by exact Ext.s1 GE262.out HB.out⟩⟩
       ·
        rw [if_neg c154] at H; have c154b0 := decide_eq_false c154; have c154b1 : decide (237 < x5_1.length) = false := decide_eq_false (by omega); clear c154
        by_cases c157 : a0_2 < 0
        ·
         rw [if_pos c157] at H; have c157b0 := decide_eq_true c157; clear c157; have H' := Aside0.mk H; clear H; have hcz158 := Ext.cells7 BK262.out; have hfz158 := Ext.froz7 BK262.out; obtain ⟨Ao159, co159, eo159⟩ := Kd.R_slice HO_5.out; subst eo159
         as_aux_lemma =>
          go_wp2
          go_meet
          case rel => exact ⟨_, (true), (by first | rfl | (simp; done) | (simp [*]; done)), H', ⟨by have := HJ1.out; first | omega | exact Nat.le_refl _⟩, ⟨by exact Ext.nR HO_5.out⟩, ⟨by (with_reducible repeat (first | apply Kd.V_alloc | apply Kd.V_drewN | apply Kd.V_drew)); exact HO_263003.out⟩, ⟨by (with_reducible repeat (first | apply Kd.V_alloc | apply Kd.V_drewN | apply Kd.V_drew)); exact HO_263004.out⟩, ⟨by (with_reducible repeat (first | apply Kd.V_alloc | apply Kd.V_drewN | apply Kd.V_drew)); exact HO_263005.out⟩, ⟨by (with_reducible repeat (first | apply Kd.V_alloc | apply Kd.V_drewN | apply Kd.V_drew)); exact HO_263006.out⟩, ⟨by exact BK262.out⟩, ⟨by exact Ext.s1 GE262.out HB.out⟩⟩
        ·
         rw [if_neg c157] at H; have c157b0 := decide_eq_false c157; clear c157
         by_cases c160 : a0_2 ≥ 1024
         ·
          rw [if_pos c160] at H; have c160b0 := decide_eq_true c160; clear c160; have H' := Aside0.mk H; clear H; have hcz161 := Ext.cells7 BK262.out; have hfz161 := Ext.froz7 BK262.out; obtain ⟨Ao162, co162, eo162⟩ := Kd.R_slice HO_5.out; subst eo162
          as_aux_lemma =>
           go_wp2
           go_meet
           case rel => exact ⟨_, (true), (by first | rfl | (simp; done) | (simp [*]; done)), H', ⟨by have := HJ1.out; first | omega | exact Nat.le_refl _⟩, ⟨by exact Ext.nR HO_5.out⟩, ⟨by (with_reducible repeat (first | apply Kd.V_alloc | apply Kd.V_drewN | apply Kd.V_drew)); exact HO_263003.out⟩, ⟨by (with_reducible repeat (first | apply Kd.V_alloc | apply Kd.V_drewN | apply Kd.V_drew)); exact HO_263004.out⟩, ⟨by (with_reducible repeat (first | apply Kd.V_alloc | apply Kd.V_drewN | apply Kd.V_drew)); exact HO_263005.out⟩, ⟨by (with_reducible repeat (first | apply Kd.V_alloc | apply Kd.V_drewN | apply Kd.V_drew)); exact HO_263006.out⟩, ⟨by exact BK262.out⟩, ⟨by exact Ext.s1 GE262.out HB.out⟩⟩
         ·
          rw [if_neg c160] at H; have c160b0 := decide_eq_false c160; clear c160
          by_cases c163 : a0_0 < 3
          ·
           rw [if_pos c163] at H; have c163b0 := decide_eq_true c163; clear c163; have H' := Aside0.mk H; clear H; have hcz164 := Ext.cells7 BK262.out; have hfz164 := Ext.froz7 BK262.out; obtain ⟨Ao165, co165, eo165⟩ := Kd.R_slice HO_5.out; subst eo165
           as_aux_lemma =>
            go_wp2
            go_meet
            case rel => exact ⟨_, ((a0_2 != 0)), (by first | rfl | (simp; done) | (simp [*]; done)), H', ⟨by have := HJ1.out; first | omega | exact Nat.le_refl _⟩, ⟨by exact Ext.nR HO_5.out⟩, ⟨by (with_reducible repeat (first | apply Kd.V_alloc | apply Kd.V_drewN | apply Kd.V_drew)); exact HO_263003.out⟩, ⟨by (with_reducible repeat (first | apply Kd.V_alloc | apply Kd.V_drewN | apply Kd.V_drew)); exact HO_263004.out⟩, ⟨by (with_reducible repeat (first | apply Kd.V_alloc | apply Kd.V_drewN | apply Kd.V_drew)); exact HO_263005.out⟩, ⟨by (with_reducible repeat (first | apply Kd.V_alloc | apply Kd.V_drewN | apply Kd.V_drew)); exact HO_263006.out⟩, ⟨by exact BK262.out⟩, ⟨by exact Ext.s1 GE262.out HB.out⟩⟩
          ·
           rw [if_neg c163] at H; have c163b0 := decide_eq_false c163; clear c163; have H' := Aside0.mk H; clear H; have hcz166 := Ext.cells7 BK262.out; have hfz166 := Ext.froz7 BK262.out; obtain ⟨Ao167, co167, eo167⟩ := Kd.R_slice HO_5.out; subst eo167
           as_aux_lemma =>
            go_wp2
            go_meet
            case rel => exact ⟨_, (false), (by first | rfl | (simp; done) | (simp [*]; done)), H', ⟨by have := HJ1.out; first | omega | exact Nat.le_refl _⟩, ⟨by exact Ext.nR HO_5.out⟩, ⟨by (with_reducible repeat (first | apply Kd.V_alloc | apply Kd.V_drewN | apply Kd.V_drew)); exact HO_263003.out⟩, ⟨by (with_reducible repeat (first | apply Kd.V_alloc | apply Kd.V_drewN | apply Kd.V_drew)); exact HO_263004.out⟩, ⟨by (with_reducible repeat (first | apply Kd.V_alloc | apply Kd.V_drewN | apply Kd.V_drew)); exact HO_263005.out⟩, ⟨by (with_reducible repeat (first | apply Kd.V_alloc | apply Kd.V_drewN | apply Kd.V_drew)); exact HO_263006.out⟩, ⟨by exact BK262.out⟩, ⟨by exact Ext.s1 GE262.out HB.out⟩⟩
      ·
       rw [if_neg c153] at H; obtain ⟨c153b0, c153b1⟩ := Ext.eF c153; have H' := Aside0.mk H; clear H; have hcz168 := Ext.cells7 BK262.out; have hfz168 := Ext.froz7 BK262.out
       as_aux_lemma =>
        go_wp2
        go_meet
        case rel => exact ⟨_, (true), (by first | rfl | (simp; done) | (simp [*]; done)), H', ⟨by have := HJ1.out; first | omega | exact Nat.le_refl _⟩, ⟨by exact Ext.nR HO_5.out⟩, ⟨by (with_reducible repeat (first | apply Kd.V_alloc | apply Kd.V_drewN | apply Kd.V_drew)); exact HO_263003.out⟩, ⟨by (with_reducible repeat (first | apply Kd.V_alloc | apply Kd.V_drewN | apply Kd.V_drew)); exact HO_263004.out⟩, ⟨by (with_reducible repeat (first | apply Kd.V_alloc | apply Kd.V_drewN | apply Kd.V_drew)); exact HO_263005.out⟩, ⟨by (with_reducible repeat (first | apply Kd.V_alloc | apply Kd.V_drewN | apply Kd.V_drew)); exact HO_263006.out⟩, ⟨by exact BK262.out⟩, ⟨by exact Ext.s1 GE262.out HB.out⟩⟩
     ·
      rw [if_neg c152] at H; obtain ⟨c152b0, c152b1⟩ := Ext.eF c152; have H' := Aside0.mk H; clear H; have hcz169 := Ext.cells7 BK262.out; have hfz169 := Ext.froz7 BK262.out
      as_aux_lemma =>
       go_wp2
       go_meet
       case rel => exact ⟨_, (true), (by first | rfl | (simp; done) | (simp [*]; done)), H', ⟨by have := HJ1.out; first | omega | exact Nat.le_refl _⟩, ⟨by exact Ext.nR HO_5.out⟩, ⟨by (with_reducible repeat (first | apply Kd.V_alloc | apply Kd.V_drewN | apply Kd.V_drew)); exact HO_263003.out⟩, ⟨by (with_reducible repeat (first | apply Kd.V_alloc | apply Kd.V_drewN | apply Kd.V_drew)); exact HO_263004.out⟩, ⟨by (with_reducible repeat (first | apply Kd.V_alloc | apply Kd.V_drewN | apply Kd.V_drew)); exact HO_263005.out⟩, ⟨by (with_reducible repeat (first | apply Kd.V_alloc | apply Kd.V_drewN | apply Kd.V_drew)); exact HO_263006.out⟩, ⟨by exact BK262.out⟩, ⟨by exact Ext.s1 GE262.out HB.out⟩⟩
    ·
     rw [if_neg c151] at H; obtain ⟨c151b0, c151b1⟩ := Ext.eF c151
     (first | rw [c151b0] | (simp only [i64_w, i32_w]; rw [c151b0]) | skip)
     by_cases c170 : (wrap64 ((wrap64 ((wrap64 ((wrap64 ((l0_3.length : Int) + (l0_4.length : Int))) + (l0_5.length : Int))) + (l0_6.length : Int))) - x6_1)) = 0
     ·
      rw [if_pos c170] at H; obtain ⟨c170b0, c170b1⟩ := Ext.eT c170; clear c170
      by_cases c171 : (x5_1.length : Int) > 237
      ·
       rw [if_pos c171] at H; have c171b0 := decide_eq_true c171; have c171b1 : decide (237 < x5_1.length) = true := decide_eq_true (by omega); clear c171; have H' := Aside0.mk H; clear H; obtain ⟨Ao172, co172, eo172⟩ := Kd.R_slice HO_5.out; subst eo172
       as_aux_lemma =>
        go_wp2
        go_meet
        case rel => exact ⟨_, (true), (by first | rfl | (simp; done) | (simp [*]; done)), H', ⟨by have := HJ1.out; first | omega | exact Nat.le_refl _⟩, ⟨by exact Ext.nR HO_5.out⟩, ⟨by (with_reducible repeat (first | apply Kd.V_alloc | apply Kd.V_drewN | apply Kd.V_drew)); exact HO_263003.out⟩, ⟨by (with_reducible repeat (first | apply Kd.V_alloc | apply Kd.V_drewN | apply Kd.V_drew)); exact HO_263004.out⟩, ⟨by (with_reducible repeat (first | apply Kd.V_alloc | apply Kd.V_drewN | apply Kd.V_drew)); exact HO_263005.out⟩, ⟨by (with_reducible repeat (first | apply Kd.V_alloc | apply Kd.V_drewN | apply Kd.V_drew)); exact HO_263006.out⟩, ⟨by exact BK262.out⟩, ⟨by exact Ext.s1 GE262.out HB.out⟩⟩
      ·
       rw [if_neg c171] at H; have c171b0 := decide_eq_false c171; have c171b1 : decide (237 < x5_1.length) = false := decide_eq_false (by omega); clear c171
       by_cases c173 : a0_2 < 0
       ·
        rw [if_pos c173] at H; have c173b0 := decide_eq_true c173; clear c173; have H' := Aside0.mk H; clear H; obtain ⟨Ao174, co174, eo174⟩ := Kd.R_slice HO_5.out; subst eo174; have hcz175 := Ext.cells7 BK262.out; have hfz175 := Ext.froz7 BK262.out
        as_aux_lemma =>
         go_wp2
         go_meet
         case rel => exact ⟨_, (true), (by first | rfl | (simp; done) | (simp [*]; done)), H', ⟨by have := HJ1.out; first | omega | exact Nat.le_refl _⟩, ⟨by exact Ext.nR HO_5.out⟩, ⟨by (with_reducible repeat (first | apply Kd.V_alloc | apply Kd.V_drewN | apply Kd.V_drew)); exact HO_263003.out⟩, ⟨by (with_reducible repeat (first | apply Kd.V_alloc | apply Kd.V_drewN | apply Kd.V_drew)); exact HO_263004.out⟩, ⟨by (with_reducible repeat (first | apply Kd.V_alloc | apply Kd.V_drewN | apply Kd.V_drew)); exact HO_263005.out⟩, ⟨by (with_reducible repeat (first | apply Kd.V_alloc | apply Kd.V_drewN | apply Kd.V_drew)); exact HO_263006.out⟩, ⟨by exact BK262.out⟩, ⟨by exact Ext.s1 GE262.out HB.out⟩⟩
       ·
        rw [if_neg c173] at H; have c173b0 := decide_eq_false c173; clear c173
        by_cases c176 : a0_2 ≥ 1024
        ·
         rw [if_pos c176] at H; have c176b0 := decide_eq_true c176; clear c176; have H' := Aside0.mk H; clear H; obtain ⟨Ao177, co177, eo177⟩ := Kd.R_slice HO_5.out; subst eo177; have hcz178 := Ext.cells7 BK262.out; have hfz178 := Ext.froz7 BK262.out
         as_aux_lemma =>
          go_wp2
          go_meet
          case rel => exact ⟨_, (true), (by first | rfl | (simp; done) | (simp [*]; done)), H', ⟨by have := HJ1.out; first | omega | exact Nat.le_refl _⟩, ⟨by exact Ext.nR HO_5.out⟩, ⟨by (with_reducible repeat (first | apply Kd.V_alloc | apply Kd.V_drewN | apply Kd.V_drew)); exact HO_263003.out⟩, ⟨by (with_reducible repeat (first | apply Kd.V_alloc | apply Kd.V_drewN | apply Kd.V_drew)); exact HO_263004.out⟩, ⟨by (with_reducible repeat (first | apply Kd.V_alloc | apply Kd.V_drewN | apply Kd.V_drew)); exact HO_263005.out⟩, ⟨by (with_reducible repeat (first | apply Kd.V_alloc | apply Kd.V_drewN | apply Kd.V_drew)); exact HO_263006.out⟩, ⟨by exact BK262.out⟩, ⟨by exact Ext.s1 GE262.out HB.out⟩⟩
        ·
         rw [if_neg c176] at H; have c176b0 := decide_eq_false c176; clear c176
         by_cases c179 : a0_0 < 3
         ·
          rw [if_pos c179] at H; have c179b0 := decide_eq_true c179; clear c179; have H' := Aside0.mk H; clear H; obtain ⟨Ao180, co180, eo180⟩ := Kd.R_slice HO_5.out; subst eo180; have hcz181 := Ext.cells7 BK262.out; have hfz181 := Ext.froz7 BK262.out
          as_aux_lemma =>
           go_wp2
           go_meet
           case rel => exact ⟨_, ((a0_2 != 0)), (by first | rfl | (simp; done) | (simp [*]; done)), H', ⟨by have := HJ1.out; first | omega | exact Nat.le_refl _⟩, ⟨by exact Ext.nR HO_5.out⟩, ⟨by (with_reducible repeat (first | apply Kd.V_alloc | apply Kd.V_drewN | apply Kd.V_drew)); exact HO_263003.out⟩, ⟨by (with_reducible repeat (first | apply Kd.V_alloc | apply Kd.V_drewN | apply Kd.V_drew)); exact HO_263004.out⟩, ⟨by (with_reducible repeat (first | apply Kd.V_alloc | apply Kd.V_drewN | apply Kd.V_drew)); exact HO_263005.out⟩, ⟨by (with_reducible repeat (first | apply Kd.V_alloc | apply Kd.V_drewN | apply Kd.V_drew)); exact HO_263006.out⟩, ⟨by exact BK262.out⟩, ⟨by exact Ext.s1 GE262.out HB.out⟩⟩
         ·
          rw [if_neg c179] at H; have c179b0 := decide_eq_false c179; clear c179; have H' := Aside0.mk H; clear H; obtain ⟨Ao182, co182, eo182⟩ := Kd.R_slice HO_5.out; subst eo182; have hcz183 := Ext.cells7 BK262.out; have hfz183 := Ext.froz7 BK262.out
          as_aux_lemma =>
           go_wp2
           go_meet
           case rel => exact ⟨_, (false), (by first | rfl | (simp; done) | (simp [*]; done)), H', ⟨by have := HJ1.out; first | omega | exact Nat.le_refl _⟩, ⟨by exact Ext.nR HO_5.out⟩, ⟨by (with_reducible repeat (first | apply Kd.V_alloc | apply Kd.V_drewN | apply Kd.V_drew)); exact HO_263003.out⟩, ⟨by (with_reducible repeat (first | apply Kd.V_alloc | apply Kd.V_drewN | apply Kd.V_drew)); exact HO_263004.out⟩, ⟨by (with_reducible repeat (first | apply Kd.V_alloc | apply Kd.V_drewN | apply Kd.V_drew)); exact HO_263005.out⟩, ⟨by (with_reducible repeat (first | apply Kd.V_alloc | apply Kd.V_drewN | apply Kd.V_drew)); exact HO_263006.out⟩, ⟨by exact BK262.out⟩, ⟨by exact Ext.s1 GE262.out HB.out⟩⟩
     ·
      rw [if_neg c170] at H; obtain ⟨c170b0, c170b1⟩ := Ext.eF c170; have H' := Aside0.mk H; clear H
      as_aux_lemma =>
       go_wp2
       go_meet
       case rel => exact ⟨_, (true), (by first | rfl | (simp; done) | (simp [*]; done)), H', ⟨by have := HJ1.out; first | omega | exact Nat.le_refl _⟩, ⟨by exact Ext.nR HO_5.out⟩, ⟨by (with_reducible repeat (first | apply Kd.V_alloc | apply Kd.V_drewN | apply Kd.V_drew)); exact HO_263003.out⟩, ⟨by (with_reducible repeat (first | apply Kd.V_alloc | apply Kd.V_drewN | apply Kd.V_drew)); exact HO_263004.out⟩, ⟨by (with_reducible repeat (first | apply Kd.V_alloc | apply Kd.V_drewN | apply Kd.V_drew)); exact HO_263005.out⟩, ⟨by (with_reducible repeat (first | apply Kd.V_alloc | apply Kd.V_drewN | apply Kd.V_drew)); exact HO_263006.out⟩, ⟨by exact BK262.out⟩, ⟨by exact Ext.s1 GE262.out HB.out⟩⟩
   case rest => as_aux_lemma =>
    clear HC149; (try clear c15 c16 c17 c151b0 c151b1 c152b0 c152b1 c153b0 c153b1 c154b0 c154b1 c157b0 c160b0 c163b0 c170b0 c170b1 c171b0 c171b1 c173b0 c176b0 c179b0 hcz150 hcz155 hcz158 hcz161 hcz164 hcz166 hcz168 hcz169 hcz175 hcz178 hcz181 hcz183 hfz150 hfz155 hfz158 hfz161 hfz164 hfz166 hfz168 hfz169 hfz175 hfz178 hfz181 hfz183); obtain ⟨kq, x281_148, rfl, HA, HJ148, HO_5, HO_263003, HO_263004, HO_263005, HO_263006, BK262, HB⟩ := hcut; cases kq with
    | zero => exact absurd HA.out (by simp [terrierref04_room.j8])
    | succ kj148 =>
     have H := HA.out; clear HA; simp only [terrierref04_room.j8] at H
     by_cases c184 : x281_148 = true
     ·
      subst c184; rw [if_pos rfl] at H; simp only [Option.some.injEq, Prod.mk.injEq] at H; obtain ⟨rfl, rfl, rfl⟩ := H
      as_aux_lemma =>
       go_wp2
       go_ret3
       exact ⟨_, by first | rfl | (simp [errW_none, errW_some] <;> rfl) | (simp [*, errW_none, errW_some] <;> rfl), by first | exact Ext.nl | exact Kd.R_nil _ _ _ _ _, by exact Ext.s1 GE262.out HB.out⟩
     ·
      replace c184 := Bool.eq_false_iff.mpr c184; subst c184; rw [if_neg Bool.false_ne_true] at H; simp only [Option.some.injEq, Prod.mk.injEq] at H; obtain ⟨rfl, rfl, rfl⟩ := H
      as_aux_lemma =>
       go_wp2
       go_ret3
       exact ⟨_, by first | rfl | (simp [errW_none, errW_some] <;> rfl) | (simp [*, errW_none, errW_some] <;> rfl), by exact Ext.nR HO_5.out, by exact Ext.s1 GE262.out HB.out⟩
 
end Go.Proofs.Ytandeendeoempaa.PC
