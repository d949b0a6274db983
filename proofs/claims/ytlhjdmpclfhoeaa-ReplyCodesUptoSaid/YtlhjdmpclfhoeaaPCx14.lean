-- Written by wip/printx.py, a program of this work over the kit's print, for this claim.
import Derived.Test.YtlhjdmpclfhoeaaPCx0
import Derived.Test.YtlhjdmpclfhoeaaPCx10
import Derived.Test.YtlhjdmpclfhoeaaPCx11
import Derived.Test.YtlhjdmpclfhoeaaPCx12
import Derived.Test.YtlhjdmpclfhoeaaPCx13
namespace Go.Proofs.Ytlhjdmpclfhoeaa.PC
open Go.RowKit Go.Proofs.YtlhjdmpclfhoeaaW.PrintWords Go.Proofs.YtlhjdmpclfhoeaaW.PrintLast Go.Proofs.YtlhjdmpclfhoeaaW.PrintMore
attribute [local go_sem] max2_int min2_int max_two min_two max_three min_three max_four min_four   -- for this text's walks alone
attribute [local go_sem] Ext.pick_u8 Ext.pick_u32 Ext.pick_u64
set_option linter.unusedVariables false
set_option linter.unusedSimpArgs false

@[reducible] def zb11_0 : Array Bool := #[true, true, true, true, true, true, true, true, true, true, true, true, true, true, true, true, true, true, true, true, true, true, true, true, true, true, true, true, true, true, true, true, false]

/-! ### terrierref20_Encode: function 11 -/
mutual
def terrierref20_Encode.j0 : Nat → Int → Bool → Int → Int → Int → Int → List (S79) → Int → Bool → List (S79) → Int → Bool → List (S27) → Int → Int → Int → List Int → List (List Int) → Int → Int → List Int → Bool → Option (List Int × Bool)
 | 0, _, _, _, _, _, _, _, _, _, _, _, _, _, _, _, _, _, _, _, _, _, _ => none
 | k + 1, x5, x39, x368000, x368001, x368002, x368003, x368004, x368005, x368006, x368007, x368008, x368009, x368010, x368011, x368012, x368013, x368014, x368015, x368016, x368017, x369000, x369001 => if x39 = true then (some (([] : List Int), false)) else (if x368001 = 0 then (terrierref20_Encode.j1 k x5 x368000 x368001 x368002 x368003 x368004 x368005 x368006 x368007 x368008 x368009 x368010 x368011 x368012 x368013 x368014 x368015 x368016 x368017 x369000 x369001) else (terrierref20_Encode.j1 k 0 x368000 x368001 x368002 x368003 x368004 x368005 x368006 x368007 x368008 x368009 x368010 x368011 x368012 x368013 x368014 x368015 x368016 x368017 x369000 x369001))
def terrierref20_Encode.j1 : Nat → Int → Int → Int → Int → Int → List (S79) → Int → Bool → List (S79) → Int → Bool → List (S27) → Int → Int → Int → List Int → List (List Int) → Int → Int → List Int → Bool → Option (List Int × Bool)
 | 0, _, _, _, _, _, _, _, _, _, _, _, _, _, _, _, _, _, _, _, _, _ => none
 | k + 1, x5, x368000, x368001, x368002, x368003, x368004, x368005, x368006, x368007, x368008, x368009, x368010, x368011, x368012, x368013, x368014, x368015, x368016, x368017, x369000, x369001 => (terrierref20_used.f k x5).bind fun t377 => ((terrierref20_zeroTold.f x368003 x368004 x368005 x368006 x368007 x368008).bind fun t379 => (terrierref20_Encode.l0 k x5 0 x368000 x368001 x368002 x368003 x368004 x368005 x368006 x368007 x368008 x368009 x368010 x368011 x368012 x368013 x368014 x368015 x368016 x368017 x369000 x369001 t377.1 t377.2.1 t377.2.2.1 t377.2.2.2.1 t377.2.2.2.2.1 t377.2.2.2.2.2.1 t377.2.2.2.2.2.2.1 t377.2.2.2.2.2.2.2.1 t377.2.2.2.2.2.2.2.2 (!t379) (decide (0 < x368010.length)) x368009 (x368011 != 0) (x368012 != 0) (x368013 != 0) (decide (0 < x368015.length)) (decide (0 < x368014.length)) (x368016 != 0)))
def terrierref20_Encode.l0 : Nat → Int → Int → Int → Int → Int → Int → List (S79) → Int → Bool → List (S79) → Int → Bool → List (S27) → Int → Int → Int → List Int → List (List Int) → Int → Int → List Int → Bool → Bool → Bool → Bool → Bool → Bool → Bool → Bool → Bool → Bool → Bool → Bool → Bool → Bool → Bool → Bool → Bool → Bool → Bool → Option (List Int × Bool)
 | 0, _, _, _, _, _, _, _, _, _, _, _, _, _, _, _, _, _, _, _, _, _, _, _, _, _, _, _, _, _, _, _, _, _, _, _, _, _, _, _, _ => none
 | k + 1, x5, x76, x368000, x368001, x368002, x368003, x368004, x368005, x368006, x368007, x368008, x368009, x368010, x368011, x368012, x368013, x368014, x368015, x368016, x368017, x369000, x369001, x379000, x379001, x379002, x379003, x379004, x379005, x379006, x379007, x379008, x381000, x381001, x381002, x381003, x381004, x381005, x381006, x381007, x381008 => if x76 < 9 then (if 0 ≤ x76 then (if Ext.ix9b (x381000, x381001, x381002, x381003, x381004, x381005, x381006, x381007, x381008) x76 = true then (if (Ext.ix9b (x379000, x379001, x379002, x379003, x379004, x379005, x379006, x379007, x379008) x76 = true) then (terrierref20_Encode.l0 k x5 (wrap64 (x76 + 1)) x368000 x368001 x368002 x368003 x368004 x368005 x368006 x368007 x368008 x368009 x368010 x368011 x368012 x368013 x368014 x368015 x368016 x368017 x369000 x369001 x379000 x379001 x379002 x379003 x379004 x379005 x379006 x379007 x379008 x381000 x381001 x381002 x381003 x381004 x381005 x381006 x381007 x381008) else (some (([] : List Int), false))) else (terrierref20_Encode.l0 k x5 (wrap64 (x76 + 1)) x368000 x368001 x368002 x368003 x368004 x368005 x368006 x368007 x368008 x368009 x368010 x368011 x368012 x368013 x368014 x368015 x368016 x368017 x369000 x369001 x379000 x379001 x379002 x379003 x379004 x379005 x379006 x379007 x379008 x381000 x381001 x381002 x381003 x381004 x381005 x381006 x381007 x381008)) else (none)) else (if x5 = 1 then (terrierref20_Encode.j3 k x5 x5 (x5 == 1) x368000 x368001 x368002 x368003 x368004 x368005 x368006 x368007 x368008 x368009 x368010 x368011 x368012 x368013 x368014 x368015 x368016 x368017 x369000 x369001) else (if x5 = 2 then (terrierref20_Encode.j3 k x5 x5 (x5 == 2) x368000 x368001 x368002 x368003 x368004 x368005 x368006 x368007 x368008 x368009 x368010 x368011 x368012 x368013 x368014 x368015 x368016 x368017 x369000 x369001) else (terrierref20_Encode.j3 k x5 x5 (x5 == 3) x368000 x368001 x368002 x368003 x368004 x368005 x368006 x368007 x368008 x368009 x368010 x368011 x368012 x368013 x368014 x368015 x368016 x368017 x369000 x369001)))
def terrierref20_Encode.j3 : Nat → Int → Int → Bool → Int → Int → Int → Int → List (S79) → Int → Bool → List (S79) → Int → Bool → List (S27) → Int → Int → Int → List Int → List (List Int) → Int → Int → List Int → Bool → Option (List Int × Bool)
 | 0, _, _, _, _, _, _, _, _, _, _, _, _, _, _, _, _, _, _, _, _, _, _, _ => none
 | k + 1, x5, x89, x90, x368000, x368001, x368002, x368003, x368004, x368005, x368006, x368007, x368008, x368009, x368010, x368011, x368012, x368013, x368014, x368015, x368016, x368017, x369000, x369001 => if x90 = true then ((terrierref20_out_told.f k x369000 x369001 x368003 x368004 x368005 x368006 x368007 x368008).bind fun bt381 => (if bt381.2 = true then (some (([] : List Int), false)) else (if x368003 = x5 then (some (bt381.1, true)) else (some (([] : List Int), false))))) else (if x89 = 4 then ((terrierref20_out_flag.f x369000 x369001 x368009).bind fun bt385 => ((terrierref20_out_count.f bt385.1 bt385.2 (x368010.length : Int)).bind fun bt387 => (terrierref20_Encode.l1 k x368010 (x368010.length : Int) 0 bt387.1 bt387.2))) else (if x89 = 6 then ((terrierref20_out_num.f k x369000 x369001 x368011).bind fun bt395 => ((terrierref20_out_num.f k bt395.1 bt395.2 x368012).bind fun bt397 => (if bt397.2 = true then (some (([] : List Int), false)) else (some (bt397.1, true))))) else (if x89 = 8 then (terrierref20_Encode.j5 k x89 (x89 == 8) x368000 x368001 x368002 x368003 x368004 x368005 x368006 x368007 x368008 x368009 x368010 x368011 x368012 x368013 x368014 x368015 x368016 x368017 x369000 x369001) else (terrierref20_Encode.j5 k x89 (x89 == 13) x368000 x368001 x368002 x368003 x368004 x368005 x368006 x368007 x368008 x368009 x368010 x368011 x368012 x368013 x368014 x368015 x368016 x368017 x369000 x369001))))
def terrierref20_Encode.l1 : Nat → List (S27) → Int → Int → List Int → Bool → Option (List Int × Bool)
 | 0, _, _, _, _, _ => none
 | k + 1, x124, x125, x126, x369000, x369001 => if x126 < x125 then (if 0 ≤ x126 then (if x126 < (x124.length : Int) then ((terrierref20_out_told.f k x369000 x369001 ((rd_T27 x124 x126).f0) ((rd_T27 x124 x126).f1.f0) ((rd_T27 x124 x126).f1.f1) ((rd_T27 x124 x126).f1.f2) ((rd_T27 x124 x126).f2) ((rd_T27 x124 x126).f3)).bind fun bt391 => (terrierref20_Encode.l1 k x124 x125 (wrap64 (x126 + 1)) bt391.1 bt391.2)) else (none)) else (none)) else (if x369001 = true then (some (([] : List Int), false)) else (some (x369000, true)))
def terrierref20_Encode.j5 : Nat → Int → Bool → Int → Int → Int → Int → List (S79) → Int → Bool → List (S79) → Int → Bool → List (S27) → Int → Int → Int → List Int → List (List Int) → Int → Int → List Int → Bool → Option (List Int × Bool)
 | 0, _, _, _, _, _, _, _, _, _, _, _, _, _, _, _, _, _, _, _, _, _, _ => none
 | k + 1, x89, x144, x368000, x368001, x368002, x368003, x368004, x368005, x368006, x368007, x368008, x368009, x368010, x368011, x368012, x368013, x368014, x368015, x368016, x368017, x369000, x369001 => if x144 = true then ((terrierref20_out_num.f k x369000 x369001 x368011).bind fun bt401 => ((terrierref20_out_num.f k bt401.1 bt401.2 x368012).bind fun bt403 => ((terrierref20_out_flag.f bt403.1 bt403.2 x368009).bind fun bt405 => (if bt405.2 = true then (some (([] : List Int), false)) else (some (bt405.1, true)))))) else (if x89 = 9 then ((terrierref20_out_num.f k x369000 x369001 x368011).bind fun bt409 => ((terrierref20_out_num.f k bt409.1 bt409.2 x368012).bind fun bt411 => ((terrierref20_out_num.f k bt411.1 bt411.2 x368013).bind fun bt413 => ((terrierref20_out_count.f bt413.1 bt413.2 (x368015.length : Int)).bind fun bt415 => (terrierref20_Encode.l2 k x368015 (x368015.length : Int) 0 bt415.1 bt415.2))))) else (if x89 = 10 then ((terrierref20_out_count.f x369000 x369001 (x368014.length : Int)).bind fun bt422 => (terrierref20_Encode.l3 k x368014 (x368014.length : Int) 0 bt422.1 bt422.2)) else (if x89 = 11 then ((terrierref20_out_num.f k x369000 x369001 x368011).bind fun bt429 => (if bt429.2 = true then (some (([] : List Int), false)) else (some (bt429.1, true)))) else (if x89 = 14 then ((terrierref01_Put.f k (IntKind.u64.wrap (x368016)) 4).bind fun t433 => ((terrierref20_out_add.f x369000 x369001 t433).bind fun bt436 => (if bt436.2 = true then (some (([] : List Int), false)) else (some (bt436.1, true))))) else (if x89 = 15 then ((terrierref20_out_num.f k x369000 x369001 x368012).bind fun bt440 => ((terrierref20_out_num.f k bt440.1 bt440.2 x368013).bind fun bt442 => (if bt442.2 = true then (some (([] : List Int), false)) else (some (bt442.1, true))))) else (if x369001 = true then (some (([] : List Int), false)) else (some (x369000, true))))))))
def terrierref20_Encode.l2 : Nat → List (List Int) → Int → Int → List Int → Bool → Option (List Int × Bool)
 | 0, _, _, _, _, _ => none
 | k + 1, x179, x180, x181, x369000, x369001 => if x181 < x180 then (if 0 ≤ x181 then (if x181 < (x179.length : Int) then ((terrierref20_out_text.f x369000 x369001 (rd_L1 x179 x181)).bind fun bt418 => (terrierref20_Encode.l2 k x179 x180 (wrap64 (x181 + 1)) bt418.1 bt418.2)) else (none)) else (none)) else (if x369001 = true then (some (([] : List Int), false)) else (some (x369000, true)))
def terrierref20_Encode.l3 : Nat → List Int → Int → Int → List Int → Bool → Option (List Int × Bool)
 | 0, _, _, _, _, _ => none
 | k + 1, x197, x198, x199, x369000, x369001 => if x199 < x198 then (if 0 ≤ x199 then (if x199 < (x197.length : Int) then ((terrierref20_out_num.f k x369000 x369001 (rd x197 x199)).bind fun bt425 => (terrierref20_Encode.l3 k x197 x198 (wrap64 (x199 + 1)) bt425.1 bt425.2)) else (none)) else (none)) else (if x369001 = true then (some (([] : List Int), false)) else (some (x369000, true)))
end
def terrierref20_Encode.f (k : Nat) (a0_0 : Int) (a0_1 : Int) (a0_2 : Int) (a0_3 : Int) (l0_4 : List (S79)) (a0_5 : Int) (a0_6 : Bool) (l0_7 : List (S79)) (a0_8 : Int) (a0_9 : Bool) (l0_10 : List (S27)) (a0_11 : Int) (a0_12 : Int) (a0_13 : Int) (l0_14 : List Int) (l0_15 : List (List Int)) (a0_16 : Int) (a0_17 : Int) : Option (List Int × Bool) := (terrierref20_out_small.f ([] : List Int) false a0_0).bind fun bt369 => ((terrierref20_out_small.f bt369.1 bt369.2 a0_1).bind fun bt371 => ((terrierref20_out_num.f k bt371.1 bt371.2 a0_2).bind fun bt373 => ((terrierref20_out_num.f k bt373.1 bt373.2 a0_17).bind fun bt375 => (if a0_0 < 0 then (terrierref20_Encode.j0 k a0_0 true a0_0 a0_1 a0_2 a0_3 l0_4 a0_5 a0_6 l0_7 a0_8 a0_9 l0_10 a0_11 a0_12 a0_13 l0_14 l0_15 a0_16 a0_17 bt375.1 bt375.2) else (terrierref20_Encode.j0 k a0_0 (decide (a0_0 > 17)) a0_0 a0_1 a0_2 a0_3 l0_4 a0_5 a0_6 l0_7 a0_8 a0_9 l0_10 a0_11 a0_12 a0_13 l0_14 l0_15 a0_16 a0_17 bt375.1 bt375.2)))))
theorem terrierref20_Encode.mono_l : ∀ k, (∀ y0 y1 y2 y3 y4 y5 y6 y7 y8 y9 y10 y11 y12 y13 y14 y15 y16 y17 y18 y19 y20 y21, LeO (terrierref20_Encode.j0 k y0 y1 y2 y3 y4 y5 y6 y7 y8 y9 y10 y11 y12 y13 y14 y15 y16 y17 y18 y19 y20 y21) (terrierref20_Encode.j0 (k + 1) y0 y1 y2 y3 y4 y5 y6 y7 y8 y9 y10 y11 y12 y13 y14 y15 y16 y17 y18 y19 y20 y21)) ∧ (∀ y0 y1 y2 y3 y4 y5 y6 y7 y8 y9 y10 y11 y12 y13 y14 y15 y16 y17 y18 y19 y20, LeO (terrierref20_Encode.j1 k y0 y1 y2 y3 y4 y5 y6 y7 y8 y9 y10 y11 y12 y13 y14 y15 y16 y17 y18 y19 y20) (terrierref20_Encode.j1 (k + 1) y0 y1 y2 y3 y4 y5 y6 y7 y8 y9 y10 y11 y12 y13 y14 y15 y16 y17 y18 y19 y20)) ∧ (∀ y0 y1 y2 y3 y4 y5 y6 y7 y8 y9 y10 y11 y12 y13 y14 y15 y16 y17 y18 y19 y20 y21 y22 y23 y24 y25 y26 y27 y28 y29 y30 y31 y32 y33 y34 y35 y36 y37 y38 y39, LeO (terrierref20_Encode.l0 k y0 y1 y2 y3 y4 y5 y6 y7 y8 y9 y10 y11 y12 y13 y14 y15 y16 y17 y18 y19 y20 y21 y22 y23 y24 y25 y26 y27 y28 y29 y30 y31 y32 y33 y34 y35 y36 y37 y38 y39) (terrierref20_Encode.l0 (k + 1) y0 y1 y2 y3 y4 y5 y6 y7 y8 y9 y10 y11 y12 y13 y14 y15 y16 y17 y18 y19 y20 y21 y22 y23 y24 y25 y26 y27 y28 y29 y30 y31 y32 y33 y34 y35 y36 y37 y38 y39)) ∧ (∀ y0 y1 y2 y3 y4 y5 y6 y7 y8 y9 y10 y11 y12 y13 y14 y15 y16 y17 y18 y19 y20 y21 y22, LeO (terrierref20_Encode.j3 k y0 y1 y2 y3 y4 y5 y6 y7 y8 y9 y10 y11 y12 y13 y14 y15 y16 y17 y18 y19 y20 y21 y22) (terrierref20_Encode.j3 (k + 1) y0 y1 y2 y3 y4 y5 y6 y7 y8 y9 y10 y11 y12 y13 y14 y15 y16 y17 y18 y19 y20 y21 y22)) ∧ (∀ y0 y1 y2 y3 y4, LeO (terrierref20_Encode.l1 k y0 y1 y2 y3 y4) (terrierref20_Encode.l1 (k + 1) y0 y1 y2 y3 y4)) ∧ (∀ y0 y1 y2 y3 y4 y5 y6 y7 y8 y9 y10 y11 y12 y13 y14 y15 y16 y17 y18 y19 y20 y21, LeO (terrierref20_Encode.j5 k y0 y1 y2 y3 y4 y5 y6 y7 y8 y9 y10 y11 y12 y13 y14 y15 y16 y17 y18 y19 y20 y21) (terrierref20_Encode.j5 (k + 1) y0 y1 y2 y3 y4 y5 y6 y7 y8 y9 y10 y11 y12 y13 y14 y15 y16 y17 y18 y19 y20 y21)) ∧ (∀ y0 y1 y2 y3 y4, LeO (terrierref20_Encode.l2 k y0 y1 y2 y3 y4) (terrierref20_Encode.l2 (k + 1) y0 y1 y2 y3 y4)) ∧ (∀ y0 y1 y2 y3 y4, LeO (terrierref20_Encode.l3 k y0 y1 y2 y3 y4) (terrierref20_Encode.l3 (k + 1) y0 y1 y2 y3 y4))
 | 0 => ⟨fun _ _ _ _ _ _ _ _ _ _ _ _ _ _ _ _ _ _ _ _ _ _ r h => by simp [terrierref20_Encode.j0] at h, fun _ _ _ _ _ _ _ _ _ _ _ _ _ _ _ _ _ _ _ _ _ r h => by simp [terrierref20_Encode.j1] at h, fun _ _ _ _ _ _ _ _ _ _ _ _ _ _ _ _ _ _ _ _ _ _ _ _ _ _ _ _ _ _ _ _ _ _ _ _ _ _ _ _ r h => by simp [terrierref20_Encode.l0] at h, fun _ _ _ _ _ _ _ _ _ _ _ _ _ _ _ _ _ _ _ _ _ _ _ r h => by simp [terrierref20_Encode.j3] at h, fun _ _ _ _ _ r h => by simp [terrierref20_Encode.l1] at h, fun _ _ _ _ _ _ _ _ _ _ _ _ _ _ _ _ _ _ _ _ _ _ r h => by simp [terrierref20_Encode.j5] at h, fun _ _ _ _ _ r h => by simp [terrierref20_Encode.l2] at h, fun _ _ _ _ _ r h => by simp [terrierref20_Encode.l3] at h⟩
 | k + 1 => by
  obtain ⟨ih0, ih1, ih2, ih3, ih4, ih5, ih6, ih7⟩ := terrierref20_Encode.mono_l k; refine ⟨?_, ?_, ?_, ?_, ?_, ?_, ?_, ?_⟩
  ·
   intro y0 y1 y2 y3 y4 y5 y6 y7 y8 y9 y10 y11 y12 y13 y14 y15 y16 y17 y18 y19 y20 y21
   unfold terrierref20_Encode.j0
   repeat' first
   | (with_reducible exact ih0 _ _ _ _ _ _ _ _ _ _ _ _ _ _ _ _ _ _ _ _ _ _)
   | (with_reducible exact ih1 _ _ _ _ _ _ _ _ _ _ _ _ _ _ _ _ _ _ _ _ _)
   | (with_reducible exact ih2 _ _ _ _ _ _ _ _ _ _ _ _ _ _ _ _ _ _ _ _ _ _ _ _ _ _ _ _ _ _ _ _ _ _ _ _ _ _ _ _)
   | (with_reducible exact ih3 _ _ _ _ _ _ _ _ _ _ _ _ _ _ _ _ _ _ _ _ _ _ _)
   | (with_reducible exact ih4 _ _ _ _ _)
   | (with_reducible exact ih5 _ _ _ _ _ _ _ _ _ _ _ _ _ _ _ _ _ _ _ _ _ _)
   | (with_reducible exact ih6 _ _ _ _ _)
   | (with_reducible exact ih7 _ _ _ _ _)
   | (with_reducible exact terrierref01_Put.mono _ _ _)
   | (with_reducible exact terrierref20_out_num.mono _ _ _ _)
   | (with_reducible exact terrierref20_out_told.mono _ _ _ _ _ _ _ _ _)
   | (with_reducible exact terrierref20_used.mono _ _)
   | (with_reducible exact LeO.refl _)
   | (with_reducible exact LeO.none _)
   | (with_reducible refine LeO.ite ?_ ?_)
   | (with_reducible refine LeO.bind ?_ (fun _ => ?_))
   | exact ih0 _ _ _ _ _ _ _ _ _ _ _ _ _ _ _ _ _ _ _ _ _ _
   | exact ih1 _ _ _ _ _ _ _ _ _ _ _ _ _ _ _ _ _ _ _ _ _
   | exact ih2 _ _ _ _ _ _ _ _ _ _ _ _ _ _ _ _ _ _ _ _ _ _ _ _ _ _ _ _ _ _ _ _ _ _ _ _ _ _ _ _
   | exact ih3 _ _ _ _ _ _ _ _ _ _ _ _ _ _ _ _ _ _ _ _ _ _ _
   | exact ih4 _ _ _ _ _
   | exact ih5 _ _ _ _ _ _ _ _ _ _ _ _ _ _ _ _ _ _ _ _ _ _
   | exact ih6 _ _ _ _ _
   | exact ih7 _ _ _ _ _
   | exact terrierref01_Put.mono _ _ _
   | exact terrierref20_out_num.mono _ _ _ _
   | exact terrierref20_out_told.mono _ _ _ _ _ _ _ _ _
   | exact terrierref20_used.mono _ _
   | exact LeO.none _
   | refine LeO.ite ?_ ?_
   | refine LeO.bind ?_ (fun _ => ?_)
  ·
   intro y0 y1 y2 y3 y4 y5 y6 y7 y8 y9 y10 y11 y12 y13 y14 y15 y16 y17 y18 y19 y20
   unfold terrierref20_Encode.j1
   repeat' first
   | (with_reducible exact ih0 _ _ _ _ _ _ _ _ _ _ _ _ _ _ _ _ _ _ _ _ _ _)
   | (with_reducible exact ih1 _ _ _ _ _ _ _ _ _ _ _ _ _ _ _ _ _ _ _ _ _)
   | (with_reducible exact ih2 _ _ _ _ _ _ _ _ _ _ _ _ _ _ _ _ _ _ _ _ _ _ _ _ _ _ _ _ _ _ _ _ _ _ _ _ _ _ _ _)
   | (with_reducible exact ih3 _ _ _ _ _ _ _ _ _ _ _ _ _ _ _ _ _ _ _ _ _ _ _)
   | (with_reducible exact ih4 _ _ _ _ _)
   | (with_reducible exact ih5 _ _ _ _ _ _ _ _ _ _ _ _ _ _ _ _ _ _ _ _ _ _)
   | (with_reducible exact ih6 _ _ _ _ _)
   | (with_reducible exact ih7 _ _ _ _ _)
   | (with_reducible exact terrierref01_Put.mono _ _ _)
   | (with_reducible exact terrierref20_out_num.mono _ _ _ _)
   | (with_reducible exact terrierref20_out_told.mono _ _ _ _ _ _ _ _ _)
   | (with_reducible exact terrierref20_used.mono _ _)
   | (with_reducible exact LeO.refl _)
   | (with_reducible exact LeO.none _)
   | (with_reducible refine LeO.ite ?_ ?_)
   | (with_reducible refine LeO.bind ?_ (fun _ => ?_))
   | exact ih0 _ _ _ _ _ _ _ _ _ _ _ _ _ _ _ _ _ _ _ _ _ _
   | exact ih1 _ _ _ _ _ _ _ _ _ _ _ _ _ _ _ _ _ _ _ _ _
   | exact ih2 _ _ _ _ _ _ _ _ _ _ _ _ _ _ _ _ _ _ _ _ _ _ _ _ _ _ _ _ _ _ _ _ _ _ _ _ _ _ _ _
   | exact ih3 _ _ _ _ _ _ _ _ _ _ _ _ _ _ _ _ _ _ _ _ _ _ _
   | exact ih4 _ _ _ _ _
   | exact ih5 _ _ _ _ _ _ _ _ _ _ _ _ _ _ _ _ _ _ _ _ _ _
   | exact ih6 _ _ _ _ _
   | exact ih7 _ _ _ _ _
   | exact terrierref01_Put.mono _ _ _
   | exact terrierref20_out_num.mono _ _ _ _
   | exact terrierref20_out_told.mono _ _ _ _ _ _ _ _ _
   | exact terrierref20_used.mono _ _
   | exact LeO.none _
   | refine LeO.ite ?_ ?_
   | refine LeO.bind ?_ (fun _ => ?_)
  ·
   intro y0 y1 y2 y3 y4 y5 y6 y7 y8 y9 y10 y11 y12 y13 y14 y15 y16 y17 y18 y19 y20 y21 y22 y23 y24 y25 y26 y27 y28 y29 y30 y31 y32 y33 y34 y35 y36 y37 y38 y39
   unfold terrierref20_Encode.l0
   repeat' first
   | (with_reducible exact ih0 _ _ _ _ _ _ _ _ _ _ _ _ _ _ _ _ _ _ _ _ _ _)
   | (with_reducible exact ih1 _ _ _ _ _ _ _ _ _ _ _ _ _ _ _ _ _ _ _ _ _)
   | (with_reducible exact ih2 _ _ _ _ _ _ _ _ _ _ _ _ _ _ _ _ _ _ _ _ _ _ _ _ _ _ _ _ _ _ _ _ _ _ _ _ _ _ _ _)
   | (with_reducible exact ih3 _ _ _ _ _ _ _ _ _ _ _ _ _ _ _ _ _ _ _ _ _ _ _)
   | (with_reducible exact ih4 _ _ _ _ _)
   | (with_reducible exact ih5 _ _ _ _ _ _ _ _ _ _ _ _ _ _ _ _ _ _ _ _ _ _)
   | (with_reducible exact ih6 _ _ _ _ _)
   | (with_reducible exact ih7 _ _ _ _ _)
   | (with_reducible exact terrierref01_Put.mono _ _ _)
   | (with_reducible exact terrierref20_out_num.mono _ _ _ _)
   | (with_reducible exact terrierref20_out_told.mono _ _ _ _ _ _ _ _ _)
   | (with_reducible exact terrierref20_used.mono _ _)
   | (with_reducible exact LeO.refl _)
   | (with_reducible exact LeO.none _)
   | (with_reducible refine LeO.ite ?_ ?_)
   | (with_reducible refine LeO.bind ?_ (fun _ => ?_))
   | exact ih0 _ _ _ _ _ _ _ _ _ _ _ _ _ _ _ _ _ _ _ _ _ _
   | exact ih1 _ _ _ _ _ _ _ _ _ _ _ _ _ _ _ _ _ _ _ _ _
   | exact ih2 _ _ _ _ _ _ _ _ _ _ _ _ _ _ _ _ _ _ _ _ _ _ _ _ _ _ _ _ _ _ _ _ _ _ _ _ _ _ _ _
   | exact ih3 _ _ _ _ _ _ _ _ _ _ _ _ _ _ _ _ _ _ _ _ _ _ _
   | exact ih4 _ _ _ _ _
   | exact ih5 _ _ _ _ _ _ _ _ _ _ _ _ _ _ _ _ _ _ _ _ _ _
   | exact ih6 _ _ _ _ _
   | exact ih7 _ _ _ _ _
   | exact terrierref01_Put.mono _ _ _
   | exact terrierref20_out_num.mono _ _ _ _
   | exact terrierref20_out_told.mono _ _ _ _ _ _ _ _ _
   | exact terrierref20_used.mono _ _
   | exact LeO.none _
   | refine LeO.ite ?_ ?_
   | refine LeO.bind ?_ (fun _ => ?_)
  ·
   intro y0 y1 y2 y3 y4 y5 y6 y7 y8 y9 y10 y11 y12 y13 y14 y15 y16 y17 y18 y19 y20 y21 y22
   unfold terrierref20_Encode.j3
   repeat' first
   | (with_reducible exact ih0 _ _ _ _ _ _ _ _ _ _ _ _ _ _ _ _ _ _ _ _ _ _)
   | (with_reducible exact ih1 _ _ _ _ _ _ _ _ _ _ _ _ _ _ _ _ _ _ _ _ _)
   | (with_reducible exact ih2 _ _ _ _ _ _ _ _ _ _ _ _ _ _ _ _ _ _ _ _ _ _ _ _ _ _ _ _ _ _ _ _ _ _ _ _ _ _ _ _)
   | (with_reducible exact ih3 _ _ _ _ _ _ _ _ _ _ _ _ _ _ _ _ _ _ _ _ _ _ _)
   | (with_reducible exact ih4 _ _ _ _ _)
   | (with_reducible exact ih5 _ _ _ _ _ _ _ _ _ _ _ _ _ _ _ _ _ _ _ _ _ _)
   | (with_reducible exact ih6 _ _ _ _ _)
   | (with_reducible exact ih7 _ _ _ _ _)
   | (with_reducible exact terrierref01_Put.mono _ _ _)
   | (with_reducible exact terrierref20_out_num.mono _ _ _ _)
   | (with_reducible exact terrierref20_out_told.mono _ _ _ _ _ _ _ _ _)
   | (with_reducible exact terrierref20_used.mono _ _)
   | (with_reducible exact LeO.refl _)
   | (with_reducible exact LeO.none _)
   | (with_reducible refine LeO.ite ?_ ?_)
   | (with_reducible refine LeO.bind ?_ (fun _ => ?_))
   | exact ih0 _ _ _ _ _ _ _ _ _ _ _ _ _ _ _ _ _ _ _ _ _ _
   | exact ih1 _ _ _ _ _ _ _ _ _ _ _ _ _ _ _ _ _ _ _ _ _
   | exact ih2 _ _ _ _ _ _ _ _ _ _ _ _ _ _ _ _ _ _ _ _ _ _ _ _ _ _ _ _ _ _ _ _ _ _ _ _ _ _ _ _
   | exact ih3 _ _ _ _ _ _ _ _ _ _ _ _ _ _ _ _ _ _ _ _ _ _ _
   | exact ih4 _ _ _ _ _
   | exact ih5 _ _ _ _ _ _ _ _ _ _ _ _ _ _ _ _ _ _ _ _ _ _
   | exact ih6 _ _ _ _ _
   | exact ih7 _ _ _ _ _
   | exact terrierref01_Put.mono _ _ _
   | exact terrierref20_out_num.mono _ _ _ _
   | exact terrierref20_out_told.mono _ _ _ _ _ _ _ _ _
   | exact terrierref20_used.mono _ _
   | exact LeO.none _
   | refine LeO.ite ?_ ?_
   | refine LeO.bind ?_ (fun _ => ?_)
  ·
   intro y0 y1 y2 y3 y4
   unfold terrierref20_Encode.l1
   repeat' first
   | (with_reducible exact ih0 _ _ _ _ _ _ _ _ _ _ _ _ _ _ _ _ _ _ _ _ _ _)
   | (with_reducible exact ih1 _ _ _ _ _ _ _ _ _ _ _ _ _ _ _ _ _ _ _ _ _)
   | (with_reducible exact ih2 _ _ _ _ _ _ _ _ _ _ _ _ _ _ _ _ _ _ _ _ _ _ _ _ _ _ _ _ _ _ _ _ _ _ _ _ _ _ _ _)
   | (with_reducible exact ih3 _ _ _ _ _ _ _ _ _ _ _ _ _ _ _ _ _ _ _ _ _ _ _)
   | (with_reducible exact ih4 _ _ _ _ _)
   | (with_reducible exact ih5 _ _ _ _ _ _ _ _ _ _ _ _ _ _ _ _ _ _ _ _ _ _)
   | (with_reducible exact ih6 _ _ _ _ _)
   | (with_reducible exact ih7 _ _ _ _ _)
   | (with_reducible exact terrierref01_Put.mono _ _ _)
   | (with_reducible exact terrierref20_out_num.mono _ _ _ _)
   | (with_reducible exact terrierref20_out_told.mono _ _ _ _ _ _ _ _ _)
   | (with_reducible exact terrierref20_used.mono _ _)
   | (with_reducible exact LeO.refl _)
   | (with_reducible exact LeO.none _)
   | (with_reducible refine LeO.ite ?_ ?_)
   | (with_reducible refine LeO.bind ?_ (fun _ => ?_))
   | exact ih0 _ _ _ _ _ _ _ _ _ _ _ _ _ _ _ _ _ _ _ _ _ _
   | exact ih1 _ _ _ _ _ _ _ _ _ _ _ _ _ _ _ _ _ _ _ _ _
   | exact ih2 _ _ _ _ _ _ _ _ _ _ _ _ _ _ _ _ _ _ _ _ _ _ _ _ _ _ _ _ _ _ _ _ _ _ _ _ _ _ _ _
   | exact ih3 _ _ _ _ _ _ _ _ _ _ _ _ _ _ _ _ _ _ _ _ _ _ _
   | exact ih4 _ _ _ _ _
   | exact ih5 _ _ _ _ _ _ _ _ _ _ _ _ _ _ _ _ _ _ _ _ _ _
   | exact ih6 _ _ _ _ _
   | exact ih7 _ _ _ _ _
   | exact terrierref01_Put.mono _ _ _
   | exact terrierref20_out_num.mono _ _ _ _
   | exact terrierref20_out_told.mono _ _ _ _ _ _ _ _ _
   | exact terrierref20_used.mono _ _
   | exact LeO.none _
   | refine LeO.ite ?_ ?_
   | refine LeO.bind ?_ (fun _ => ?_)
  ·
   intro y0 y1 y2 y3 y4 y5 y6 y7 y8 y9 y10 y11 y12 y13 y14 y15 y16 y17 y18 y19 y20 y21
   unfold terrierref20_Encode.j5
   repeat' first
   | (with_reducible exact ih0 _ _ _ _ _ _ _ _ _ _ _ _ _ _ _ _ _ _ _ _ _ _)
   | (with_reducible exact ih1 _ _ _ _ _ _ _ _ _ _ _ _ _ _ _ _ _ _ _ _ _)
   | (with_reducible exact ih2 _ _ _ _ _ _ _ _ _ _ _ _ _ _ _ _ _ _ _ _ _ _ _ _ _ _ _ _ _ _ _ _ _ _ _ _ _ _ _ _)
   | (with_reducible exact ih3 _ _ _ _ _ _ _ _ _ _ _ _ _ _ _ _ _ _ _ _ _ _ _)
   | (with_reducible exact ih4 _ _ _ _ _)
   | (with_reducible exact ih5 _ _ _ _ _ _ _ _ _ _ _ _ _ _ _ _ _ _ _ _ _ _)
   | (with_reducible exact ih6 _ _ _ _ _)
   | (with_reducible exact ih7 _ _ _ _ _)
   | (with_reducible exact terrierref01_Put.mono _ _ _)
   | (with_reducible exact terrierref20_out_num.mono _ _ _ _)
   | (with_reducible exact terrierref20_out_told.mono _ _ _ _ _ _ _ _ _)
   | (with_reducible exact terrierref20_used.mono _ _)
   | (with_reducible exact LeO.refl _)
   | (with_reducible exact LeO.none _)
   | (with_reducible refine LeO.ite ?_ ?_)
   | (with_reducible refine LeO.bind ?_ (fun _ => ?_))
   | exact ih0 _ _ _ _ _ _ _ _ _ _ _ _ _ _ _ _ _ _ _ _ _ _
   | exact ih1 _ _ _ _ _ _ _ _ _ _ _ _ _ _ _ _ _ _ _ _ _
   | exact ih2 _ _ _ _ _ _ _ _ _ _ _ _ _ _ _ _ _ _ _ _ _ _ _ _ _ _ _ _ _ _ _ _ _ _ _ _ _ _ _ _
   | exact ih3 _ _ _ _ _ _ _ _ _ _ _ _ _ _ _ _ _ _ _ _ _ _ _
   | exact ih4 _ _ _ _ _
   | exact ih5 _ _ _ _ _ _ _ _ _ _ _ _ _ _ _ _ _ _ _ _ _ _
   | exact ih6 _ _ _ _ _
   | exact ih7 _ _ _ _ _
   | exact terrierref01_Put.mono _ _ _
   | exact terrierref20_out_num.mono _ _ _ _
   | exact terrierref20_out_told.mono _ _ _ _ _ _ _ _ _
   | exact terrierref20_used.mono _ _
   | exact LeO.none _
   | refine LeO.ite ?_ ?_
   | refine LeO.bind ?_ (fun _ => ?_)
  ·
   intro y0 y1 y2 y3 y4
   unfold terrierref20_Encode.l2
   repeat' first
   | (with_reducible exact ih0 _ _ _ _ _ _ _ _ _ _ _ _ _ _ _ _ _ _ _ _ _ _)
   | (with_reducible exact ih1 _ _ _ _ _ _ _ _ _ _ _ _ _ _ _ _ _ _ _ _ _)
   | (with_reducible exact ih2 _ _ _ _ _ _ _ _ _ _ _ _ _ _ _ _ _ _ _ _ _ _ _ _ _ _ _ _ _ _ _ _ _ _ _ _ _ _ _ _)
   | (with_reducible exact ih3 _ _ _ _ _ _ _ _ _ _ _ _ _ _ _ _ _ _ _ _ _ _ _)
   | (with_reducible exact ih4 _ _ _ _ _)
   | (with_reducible exact ih5 _ _ _ _ _ _ _ _ _ _ _ _ _ _ _ _ _ _ _ _ _ _)
   | (with_reducible exact ih6 _ _ _ _ _)
   | (with_reducible exact ih7 _ _ _ _ _)
   | (with_reducible exact terrierref01_Put.mono _ _ _)
   | (with_reducible exact terrierref20_out_num.mono _ _ _ _)
   | (with_reducible exact terrierref20_out_told.mono _ _ _ _ _ _ _ _ _)
   | (with_reducible exact terrierref20_used.mono _ _)
   | (with_reducible exact LeO.refl _)
   | (with_reducible exact LeO.none _)
   | (with_reducible refine LeO.ite ?_ ?_)
   | (with_reducible refine LeO.bind ?_ (fun _ => ?_))
   | exact ih0 _ _ _ _ _ _ _ _ _ _ _ _ _ _ _ _ _ _ _ _ _ _
   | exact ih1 _ _ _ _ _ _ _ _ _ _ _ _ _ _ _ _ _ _ _ _ _
   | exact ih2 _ _ _ _ _ _ _ _ _ _ _ _ _ _ _ _ _ _ _ _ _ _ _ _ _ _ _ _ _ _ _ _ _ _ _ _ _ _ _ _
   | exact ih3 _ _ _ _ _ _ _ _ _ _ _ _ _ _ _ _ _ _ _ _ _ _ _
   | exact ih4 _ _ _ _ _
   | exact ih5 _ _ _ _ _ _ _ _ _ _ _ _ _ _ _ _ _ _ _ _ _ _
   | exact ih6 _ _ _ _ _
   | exact ih7 _ _ _ _ _
   | exact terrierref01_Put.mono _ _ _
   | exact terrierref20_out_num.mono _ _ _ _
   | exact terrierref20_out_told.mono _ _ _ _ _ _ _ _ _
   | exact terrierref20_used.mono _ _
   | exact LeO.none _
   | refine LeO.ite ?_ ?_
   | refine LeO.bind ?_ (fun _ => ?_)
  ·
   intro y0 y1 y2 y3 y4
   unfold terrierref20_Encode.l3
   repeat' first
   | (with_reducible exact ih0 _ _ _ _ _ _ _ _ _ _ _ _ _ _ _ _ _ _ _ _ _ _)
   | (with_reducible exact ih1 _ _ _ _ _ _ _ _ _ _ _ _ _ _ _ _ _ _ _ _ _)
   | (with_reducible exact ih2 _ _ _ _ _ _ _ _ _ _ _ _ _ _ _ _ _ _ _ _ _ _ _ _ _ _ _ _ _ _ _ _ _ _ _ _ _ _ _ _)
   | (with_reducible exact ih3 _ _ _ _ _ _ _ _ _ _ _ _ _ _ _ _ _ _ _ _ _ _ _)
   | (with_reducible exact ih4 _ _ _ _ _)
   | (with_reducible exact ih5 _ _ _ _ _ _ _ _ _ _ _ _ _ _ _ _ _ _ _ _ _ _)
   | (with_reducible exact ih6 _ _ _ _ _)
   | (with_reducible exact ih7 _ _ _ _ _)
   | (with_reducible exact terrierref01_Put.mono _ _ _)
   | (with_reducible exact terrierref20_out_num.mono _ _ _ _)
   | (with_reducible exact terrierref20_out_told.mono _ _ _ _ _ _ _ _ _)
   | (with_reducible exact terrierref20_used.mono _ _)
   | (with_reducible exact LeO.refl _)
   | (with_reducible exact LeO.none _)
   | (with_reducible refine LeO.ite ?_ ?_)
   | (with_reducible refine LeO.bind ?_ (fun _ => ?_))
   | exact ih0 _ _ _ _ _ _ _ _ _ _ _ _ _ _ _ _ _ _ _ _ _ _
   | exact ih1 _ _ _ _ _ _ _ _ _ _ _ _ _ _ _ _ _ _ _ _ _
   | exact ih2 _ _ _ _ _ _ _ _ _ _ _ _ _ _ _ _ _ _ _ _ _ _ _ _ _ _ _ _ _ _ _ _ _ _ _ _ _ _ _ _
   | exact ih3 _ _ _ _ _ _ _ _ _ _ _ _ _ _ _ _ _ _ _ _ _ _ _
   | exact ih4 _ _ _ _ _
   | exact ih5 _ _ _ _ _ _ _ _ _ _ _ _ _ _ _ _ _ _ _ _ _ _
   | exact ih6 _ _ _ _ _
   | exact ih7 _ _ _ _ _
   | exact terrierref01_Put.mono _ _ _
   | exact terrierref20_out_num.mono _ _ _ _
   | exact terrierref20_out_told.mono _ _ _ _ _ _ _ _ _
   | exact terrierref20_used.mono _ _
   | exact LeO.none _
   | refine LeO.ite ?_ ?_
   | refine LeO.bind ?_ (fun _ => ?_)
theorem terrierref20_Encode.mono : ∀ a0 a1 a2 a3 a4 a5 a6 a7 a8 a9 a10 a11 a12 a13 a14 a15 a16 a17 k, LeO (terrierref20_Encode.f k a0 a1 a2 a3 a4 a5 a6 a7 a8 a9 a10 a11 a12 a13 a14 a15 a16 a17) (terrierref20_Encode.f (k + 1) a0 a1 a2 a3 a4 a5 a6 a7 a8 a9 a10 a11 a12 a13 a14 a15 a16 a17) := by
 intro a0 a1 a2 a3 a4 a5 a6 a7 a8 a9 a10 a11 a12 a13 a14 a15 a16 a17 k
 obtain ⟨ih0, ih1, ih2, ih3, ih4, ih5, ih6, ih7⟩ := terrierref20_Encode.mono_l k; unfold terrierref20_Encode.f
 repeat' first
   | (with_reducible exact ih0 _ _ _ _ _ _ _ _ _ _ _ _ _ _ _ _ _ _ _ _ _ _)
   | (with_reducible exact ih1 _ _ _ _ _ _ _ _ _ _ _ _ _ _ _ _ _ _ _ _ _)
   | (with_reducible exact ih2 _ _ _ _ _ _ _ _ _ _ _ _ _ _ _ _ _ _ _ _ _ _ _ _ _ _ _ _ _ _ _ _ _ _ _ _ _ _ _ _)
   | (with_reducible exact ih3 _ _ _ _ _ _ _ _ _ _ _ _ _ _ _ _ _ _ _ _ _ _ _)
   | (with_reducible exact ih4 _ _ _ _ _)
   | (with_reducible exact ih5 _ _ _ _ _ _ _ _ _ _ _ _ _ _ _ _ _ _ _ _ _ _)
   | (with_reducible exact ih6 _ _ _ _ _)
   | (with_reducible exact ih7 _ _ _ _ _)
   | (with_reducible exact terrierref01_Put.mono _ _ _)
   | (with_reducible exact terrierref20_out_num.mono _ _ _ _)
   | (with_reducible exact terrierref20_out_told.mono _ _ _ _ _ _ _ _ _)
   | (with_reducible exact terrierref20_used.mono _ _)
   | (with_reducible exact LeO.refl _)
   | (with_reducible exact LeO.none _)
   | (with_reducible refine LeO.ite ?_ ?_)
   | (with_reducible refine LeO.bind ?_ (fun _ => ?_))
   | exact ih0 _ _ _ _ _ _ _ _ _ _ _ _ _ _ _ _ _ _ _ _ _ _
   | exact ih1 _ _ _ _ _ _ _ _ _ _ _ _ _ _ _ _ _ _ _ _ _
   | exact ih2 _ _ _ _ _ _ _ _ _ _ _ _ _ _ _ _ _ _ _ _ _ _ _ _ _ _ _ _ _ _ _ _ _ _ _ _ _ _ _ _
   | exact ih3 _ _ _ _ _ _ _ _ _ _ _ _ _ _ _ _ _ _ _ _ _ _ _
   | exact ih4 _ _ _ _ _
   | exact ih5 _ _ _ _ _ _ _ _ _ _ _ _ _ _ _ _ _ _ _ _ _ _
   | exact ih6 _ _ _ _ _
   | exact ih7 _ _ _ _ _
   | exact terrierref01_Put.mono _ _ _
   | exact terrierref20_out_num.mono _ _ _ _
   | exact terrierref20_out_told.mono _ _ _ _ _ _ _ _ _
   | exact terrierref20_used.mono _ _
   | exact LeO.none _
   | refine LeO.ite ?_ ?_
   | refine LeO.bind ?_ (fun _ => ?_)
def terrierref20_Encode.T12 : Bool × List (List Nat × List Nat) := (true, [([], []), ([0], [0]), ([1], [1]), ([2], [2]), ([], []), ([4], [4]), ([5], [5]), ([6], [6]), ([], []), ([8], [8]), ([], []), ([10], [10]), ([11], [11]), ([], []), ([13], [13]), ([14], [14]), ([], []), ([16], [16]), ([17], [17]), ([], []), ([19], [19]), ([20], [20]), ([21], [21]), ([], []), ([23], [23]), ([24], [24]), ([25], [25]), ([], []), ([27], [27]), ([28], [28]), ([3, 7, 9, 12, 15, 18, 22, 26, 29], [3, 7, 9, 12, 15, 18, 22, 26, 29]), ([], []), ([31, 30, 2, 0, 1, 2, 3, 4, 5, 6, 7, 8, 9, 10, 11, 12, 13, 14, 15, 16, 17, 18, 19, 20, 21, 22, 23, 24, 25, 26, 27, 28, 29, 30, 31], [30, 31])])
def terrierref20_Encode.B12 : List Nat := [0, 1, 3, 7, 0, 16, 48, 112, 0, 256, 0, 1024, 3072, 0, 8192, 24576, 0, 65536, 196608, 0, 524288, 1572864, 3670016, 0, 8388608, 25165824, 58720256, 0, 134217728, 402653184, 1073741823, 0, 4294967295]
theorem terrierref20_Encode.tab12 : rtab .any (opsOf Try.f11 12) = terrierref20_Encode.T12 := by kernel_rfl
theorem terrierref20_Encode.bits12 : waitsOk terrierref20_Encode.T12.2 terrierref20_Encode.B12 = true := by kernel_rfl
set_option maxHeartbeats 8000000 in
set_option maxRecDepth 100000 in
theorem terrierref20_Encode.calls (k : Nat) (a0_0 : Int) (a0_1 : Int) (a0_2 : Int) (a0_3 : Int) (A0_4 : Option Addr) (c0_4 : Nat) (l0_4 : List (S79)) (a0_5 : Int) (a0_6 : Bool) (A0_7 : Option Addr) (c0_7 : Nat) (l0_7 : List (S79)) (a0_8 : Int) (a0_9 : Bool) (A0_10 : Option Addr) (c0_10 : Nat) (l0_10 : List (S27)) (a0_11 : Int) (a0_12 : Int) (a0_13 : Int) (A0_14 : Option Addr) (c0_14 : Nat) (l0_14 : List Int) (A0_15 : Option Addr) (c0_15 : Nat) (l0_15 : List (List Int)) (a0_16 : Int) (a0_17 : Int) (r1 : List Int) (r2 : Bool) (w : World) (hr0_4 : Kd.C k79 w A0_4 l0_4.length l0_4) (hc0_4 : l0_4.length ≤ c0_4) (hr0_7 : Kd.C k79 w A0_7 l0_7.length l0_7) (hc0_7 : l0_7.length ≤ c0_7) (hr0_10 : Kd.C k27 w A0_10 l0_10.length l0_10) (hc0_10 : l0_10.length ≤ c0_10) (hr0_14 : Kd.C (Kd.int .i64) w A0_14 l0_14.length l0_14) (hc0_14 : l0_14.length ≤ c0_14) (hr0_15 : Kd.C (Kd.slice 5 (Kd.int .u8)) w A0_15 l0_15.length l0_15) (hc0_15 : l0_15.length ≤ c0_15) (h : terrierref20_Encode.f k a0_0 a0_1 a0_2 a0_3 l0_4 a0_5 a0_6 l0_7 a0_8 a0_9 l0_10 a0_11 a0_12 a0_13 l0_14 l0_15 a0_16 a0_17 = some (r1, r2)) :
  Calls Try.prog 11 #[.agg #[.int .i64 a0_0, .int .i64 a0_1, .int .i64 a0_2, .int .i64 a0_3, .slice A0_4 l0_4.length c0_4, .int .i64 a0_5, .bool a0_6, .slice A0_7 l0_7.length c0_7, .int .i64 a0_8, .bool a0_9, .slice A0_10 l0_10.length c0_10, .int .i64 a0_11, .int .i64 a0_12, .int .i64 a0_13, .slice A0_14 l0_14.length c0_14, .slice A0_15 l0_15.length c0_15, .int .u32 a0_16, .int .i64 a0_17]] w fun e w' => ∃ v0_ : Value, e = .returned (.tuple #[v0_, .bool r2]) ∧ Kd.R (Kd.int .u8) 5 w' w.heap.size (fun _ => True) v0_ r1 ∧ Below w.heap.size w w' := by
 have hu33 := Try.underlying33; have hu66 := Try.underlying66; have hu27 := Try.underlying27; have hu69 := Try.underlying69; have HR0_4 := Aside0.mk hr0_4; have HC0_4 := Aside0.mk hc0_4; clear hr0_4 hc0_4; have HR0_7 := Aside0.mk hr0_7; have HC0_7 := Aside0.mk hc0_7; clear hr0_7 hc0_7; have HR0_10 := Aside0.mk hr0_10; have HC0_10 := Aside0.mk hc0_10; clear hr0_10 hc0_10; have HR0_14 := Aside0.mk hr0_14; have HC0_14 := Aside0.mk hc0_14; clear hr0_14 hc0_14; have HR0_15 := Aside0.mk hr0_15; have HC0_15 := Aside0.mk hc0_15; clear hr0_15 hc0_15; have HB := Ext.a (Below.refl w.heap.size w); have H := h; unfold terrierref20_Encode.f at H; clear h; replace H := Option.bind_eq_some_iff.mp H; obtain ⟨⟨t369, t370⟩, A20, H⟩ := H; (try dsimp only at H); have A2 := Aside0.mk A20; clear A20; replace H := Option.bind_eq_some_iff.mp H; obtain ⟨⟨t371, t372⟩, A30, H⟩ := H; (try dsimp only at H); have A3 := Aside0.mk A30; clear A30; replace H := Option.bind_eq_some_iff.mp H; obtain ⟨⟨t373, t374⟩, A40, H⟩ := H; (try dsimp only at H); have A4 := Aside0.mk A40; clear A40; replace H := Option.bind_eq_some_iff.mp H; obtain ⟨⟨t375, t376⟩, A50, H⟩ := H; (try dsimp only at H); have A5 := Aside0.mk A50; clear A50; have HC6 := Aside0.mk H; clear H
 go_enter Try.func11, Try.ntmps11
 go_upto_region 7 with (first | ((with_reducible refine gate_dst (N := 1) rfl ?_); refine box_event ?hg (N := 1) ?hd (cs := #[.int .i64 a0_0, .int .i64 a0_1, .int .i64 a0_2, .int .i64 a0_3, .slice A0_4 l0_4.length c0_4, .int .i64 a0_5, .bool a0_6, .slice A0_7 l0_7.length c0_7, .int .i64 a0_8, .bool a0_9, .slice A0_10 l0_10.length c0_10, .int .i64 a0_11, .int .i64 a0_12, .int .i64 a0_13, .slice A0_14 l0_14.length c0_14, .slice A0_15 l0_15.length c0_15, .int .u32 a0_16, .int .i64 a0_17]) (t := 33) ?hr ?_; (case hd => rfl); (case hg => rfl); (case hr => first | (go_simp; done) | (go_simp; rfl)); intro gb367 hg w7 hbox hb; have BK367 := Ext.a (hbox); have GW367 := Ext.gw hg (below_size (Ext.nB HB.out)); have GE367 := Ext.gw hg (below_size (Ext.nB HB.out)); replace HB := Ext.a (below_step (Ext.nB HB.out) hb); clear hb hbox hg) | ((with_reducible refine gate_dst (N := 16) rfl ?_); refine box_event ?hg (N := 16) ?hd (cs := #[.slice none 0 0, .bool false]) (t := 66) ?hr ?_; (case hd => rfl); (case hg => rfl); (case hr => first | (go_simp; done) | (go_simp; rfl)); intro gb368 hg w8 hbox hb; have BK368 := Ext.a (hbox); have GW368 := Ext.gw hg (below_size (Ext.s1 GE367.out HB.out)); have GE368 := Ext.gw hg (below_size (Ext.s1 GE367.out HB.out)); replace HB := Ext.a (below_step (Ext.s1 GE367.out HB.out) hb); have NB367_368 := Ext.nt hg (blk_lt BK367.out); have NB368_367 := Ext.ng hg (blk_lt BK367.out); replace BK367 := Ext.a (blk_below BK367.out hb); clear hb hbox hg; have hnb9 := NB367_368.out; have hnc9 := NB368_367.out; have hcz10 := Ext.cells18 BK367.out; have hfz10 := Ext.froz18 BK367.out; have HI368 := Ext.a (show IsS66 w w w8 gb368 ([] : List Int) false from ⟨⟨_, (by exact BK368.out), GE368.out, Kd.R_nil _ _ _ _ _⟩, Ext.Fr.of_below (Ext.s2 GE367.out GE368.out HB.out) _ _⟩); clear BK368) | ((with_reducible refine gate_callee (f := 24) rfl ?_); refine Ext.gs (some 21) rfl rfl Try.func24 #[.pointer (some ⟨gb368, 0, none⟩), .int .i64 a0_0] rfl ?_; (with_reducible refine (terrierref20_out_small.calls gb368 ([] : List Int) false a0_0 t369 t370 w _ ?side1 ?side2 A2.out).mono ?_); (case side1 => refine IsS66.now (wF := w) ?_; exact IsS66.go HI368.out); (case side2 => exact Ext.s2 GE367.out (IsS66.ge HI368.out) HB.out); rintro e w11 ⟨rfl, hi, hb⟩; refine ⟨_, rfl, ?_⟩; replace HB := Ext.a (hb); replace HI368 := Ext.a (IsS66.then (by exact IsS66.go HI368.out) hi); replace BK367 := Ext.a (IsS66.blk hi (by exact BK367.out) NB367_368.out (by decide)); (try clear hb hi); have hcz12 := Ext.cells18 BK367.out; have hfz12 := Ext.froz18 BK367.out) | ((with_reducible refine gate_callee (f := 24) rfl ?_); refine Ext.gs (some 25) rfl rfl Try.func24 #[.pointer (some ⟨gb368, 0, none⟩), .int .i64 a0_1] rfl ?_; (with_reducible refine (terrierref20_out_small.calls gb368 t369 t370 a0_1 t371 t372 w _ ?side1 ?side2 A3.out).mono ?_); (case side1 => refine IsS66.now (wF := w) ?_; exact IsS66.go HI368.out); (case side2 => exact Ext.s2 GE367.out (IsS66.ge HI368.out) HB.out); rintro e w13 ⟨rfl, hi, hb⟩; refine ⟨_, rfl, ?_⟩; replace HB := Ext.a (hb); replace HI368 := Ext.a (IsS66.then (by exact IsS66.go HI368.out) hi); replace BK367 := Ext.a (IsS66.blk hi (by exact BK367.out) NB367_368.out (by decide)); (try clear hb hi); have hcz14 := Ext.cells18 BK367.out; have hfz14 := Ext.froz18 BK367.out) | ((with_reducible refine gate_callee (f := 25) rfl ?_); refine Ext.gs (some 29) rfl rfl Try.func25 #[.pointer (some ⟨gb368, 0, none⟩), .int .i64 a0_2] rfl ?_; (with_reducible refine (terrierref20_out_num.calls k gb368 t371 t372 a0_2 t373 t374 w _ ?side1 ?side2 A4.out).mono ?_); (case side1 => refine IsS66.now (wF := w) ?_; exact IsS66.go HI368.out); (case side2 => exact Ext.s2 GE367.out (IsS66.ge HI368.out) HB.out); rintro e w15 ⟨rfl, hi, hb⟩; refine ⟨_, rfl, ?_⟩; replace HB := Ext.a (hb); replace HI368 := Ext.a (IsS66.then (by exact IsS66.go HI368.out) hi); replace BK367 := Ext.a (IsS66.blk hi (by exact BK367.out) NB367_368.out (by decide)); (try clear hb hi); have hcz16 := Ext.cells18 BK367.out; have hfz16 := Ext.froz18 BK367.out) | ((with_reducible refine gate_callee (f := 25) rfl ?_); refine Ext.gs (some 33) rfl rfl Try.func25 #[.pointer (some ⟨gb368, 0, none⟩), .int .i64 a0_17] rfl ?_; (with_reducible refine (terrierref20_out_num.calls k gb368 t373 t374 a0_17 t375 t376 w _ ?side1 ?side2 A5.out).mono ?_); (case side1 => refine IsS66.now (wF := w) ?_; exact IsS66.go HI368.out); (case side2 => exact Ext.s2 GE367.out (IsS66.ge HI368.out) HB.out); rintro e w17 ⟨rfl, hi, hb⟩; refine ⟨_, rfl, ?_⟩; replace HB := Ext.a (hb); replace HI368 := Ext.a (IsS66.then (by exact IsS66.go HI368.out) hi); replace BK367 := Ext.a (IsS66.blk hi (by exact BK367.out) NB367_368.out (by decide)); (try clear hb hi)))
 (try simp only [Act.put, Ext.sb, Ext.sz, Ext.ss])
 go_cut [39] (fun v39 wc => ∃ (kq : Nat) (x39_5 : Bool), v39 = .bool x39_5 ∧ Aside0 (terrierref20_Encode.j0 kq a0_0 x39_5 a0_0 a0_1 a0_2 a0_3 l0_4 a0_5 a0_6 l0_7 a0_8 a0_9 l0_10 a0_11 a0_12 a0_13 l0_14 l0_15 a0_16 a0_17 t375 t376 = some (r1, r2)) ∧ Aside0 (kq ≤ k) ∧ Aside0 (wc.heap[gb367]? = some (.cells #[.int .i64 a0_0, .int .i64 a0_1, .int .i64 a0_2, .int .i64 a0_3, (.slice A0_4 l0_4.length c0_4), .int .i64 a0_5, .bool a0_6, (.slice A0_7 l0_7.length c0_7), .int .i64 a0_8, .bool a0_9, (.slice A0_10 l0_10.length c0_10), .int .i64 a0_11, .int .i64 a0_12, .int .i64 a0_13, (.slice A0_14 l0_14.length c0_14), (.slice A0_15 l0_15.length c0_15), .int .u32 a0_16, .int .i64 a0_17] 33 (0, 0))) ∧ Aside0 (IsS66 w w wc gb368 t375 t376) ∧ Aside0 (Below w.heap.size w wc))
 case first =>
  have H := HC6.out; clear HC6
  by_cases c18 : a0_0 < 0
  case' _ =>
   rw [if_pos c18] at H; have c18b0 := decide_eq_true c18; clear c18
   (first | rw [c18b0] | (simp only [i64_w, i32_w]; rw [c18b0]) | skip)
  rotate_left 1
  case' _ =>
   rw [if_neg c18] at H; have c18b0 := decide_eq_false c18; clear c18
   (first | rw [c18b0] | (simp only [i64_w, i32_w]; rw [c18b0]) | skip)
  all_goals (as_aux_lemma => have H' := Aside0.mk H; clear H; go_wp2; go_meet; (case rel => exact ⟨_, _, (by first | rfl | (simp; done) | (simp [*]; done)), H', ⟨by first | omega | exact Nat.le_refl _⟩, ⟨by exact BK367.out⟩, ⟨by exact IsS66.go HI368.out⟩, ⟨by exact Ext.s2 GE367.out (IsS66.ge HI368.out) HB.out⟩⟩))
 case rest =>
  clear HC6; (try clear c1 c2 p2 c9 c11 c18b0 hcz10 hcz12 hcz14 hcz16 hfz10 hfz12 hfz14 hfz16); obtain ⟨kq, x39_5, rfl, HA, HJ5, BK367, HI368, HB⟩ := hcut; cases kq with
  | zero => exact absurd HA.out (by simp [terrierref20_Encode.j0])
  | succ kj5 =>
   have H := HA.out; clear HA; simp only [terrierref20_Encode.j0] at H
   by_cases c19 : x39_5 = true
   ·
    subst c19; rw [if_pos rfl] at H; simp only [Option.some.injEq, Prod.mk.injEq] at H; obtain ⟨rfl, rfl⟩ := H
    as_aux_lemma =>
     go_wp2
     go_ret2
     exact ⟨_, by first | rfl | (simp [errW_none, errW_some] <;> rfl) | (simp [*, errW_none, errW_some] <;> rfl), by first | exact Ext.nl | exact Kd.R_nil _ _ _ _ _, by exact Ext.s2 GE367.out (IsS66.ge HI368.out) HB.out⟩
   ·
    replace c19 := Bool.eq_false_iff.mpr c19; subst c19; rw [if_neg Bool.false_ne_true] at H; have HC20 := Aside0.mk H; clear H; have hnb21 := NB367_368.out; have hnc21 := NB368_367.out; have hcz22 := Ext.cells18 BK367.out; have hfz22 := Ext.froz18 BK367.out
    go_upto_if 42 with (fail)
    go_cut [5] (fun v5 wc => ∃ (kq : Nat) (x5_19 : Int), v5 = .int .i64 x5_19 ∧ Aside0 (terrierref20_Encode.j1 kq x5_19 a0_0 a0_1 a0_2 a0_3 l0_4 a0_5 a0_6 l0_7 a0_8 a0_9 l0_10 a0_11 a0_12 a0_13 l0_14 l0_15 a0_16 a0_17 t375 t376 = some (r1, r2)) ∧ Aside0 (kq ≤ kj5) ∧ Aside0 (wc.heap[gb367]? = some (.cells #[.int .i64 a0_0, .int .i64 a0_1, .int .i64 a0_2, .int .i64 a0_3, (.slice A0_4 l0_4.length c0_4), .int .i64 a0_5, .bool a0_6, (.slice A0_7 l0_7.length c0_7), .int .i64 a0_8, .bool a0_9, (.slice A0_10 l0_10.length c0_10), .int .i64 a0_11, .int .i64 a0_12, .int .i64 a0_13, (.slice A0_14 l0_14.length c0_14), (.slice A0_15 l0_15.length c0_15), .int .u32 a0_16, .int .i64 a0_17] 33 (0, 0))) ∧ Aside0 (IsS66 w w wc gb368 t375 t376) ∧ Aside0 (Below w.heap.size w wc))
    case first =>
     have H := HC20.out; clear HC20
     by_cases c23 : a0_1 = 0
     case' _ =>
      rw [if_pos c23] at H; obtain ⟨c23b0, c23b1⟩ := Ext.eT c23; clear c23
      (first | rw [c23b0] | (simp only [i64_w, i32_w]; rw [c23b0]) | skip)
     rotate_left 1
     case' _ =>
      rw [if_neg c23] at H; obtain ⟨c23b0, c23b1⟩ := Ext.eF c23
      (first | rw [c23b0] | (simp only [i64_w, i32_w]; rw [c23b0]) | skip)
     all_goals (as_aux_lemma => have H' := Aside0.mk H; clear H; go_wp2; go_meet; (case rel => exact ⟨_, _, (by first | rfl | (simp; done) | (simp [*]; done)), H', ⟨by have := HJ5.out; first | omega | exact Nat.le_refl _⟩, ⟨by exact BK367.out⟩, ⟨by exact IsS66.go HI368.out⟩, ⟨by exact Ext.s2 GE367.out (IsS66.ge HI368.out) HB.out⟩⟩))
    case rest =>
     clear HC20; (try clear c21 c23b0 c23b1 hcz22 hfz22); obtain ⟨kq, x5_19, rfl, HA, HJ19, BK367, HI368, HB⟩ := hcut; cases kq with
     | zero => exact absurd HA.out (by simp [terrierref20_Encode.j1])
     | succ kj19 =>
      have H := HA.out; clear HA; simp only [terrierref20_Encode.j1] at H; replace H := Option.bind_eq_some_iff.mp H; obtain ⟨t377, A240, H⟩ := H; (try dsimp only at H); have A24 := Aside0.mk A240; clear A240; replace H := Option.bind_eq_some_iff.mp H; obtain ⟨t379, A250, H⟩ := H; (try dsimp only at H); have A25 := Aside0.mk A250; clear A250; have H' := Aside0.mk H; clear H
      try go_wp2_with (first | ((with_reducible refine gate_callee (f := 26) rfl ?_); refine Ext.gs (some 44) rfl rfl Try.func26 #[.int .i64 x5_19] rfl ?_; (with_reducible refine (terrierref20_used.calls kj19 x5_19 t377 _ A24.out).mono ?_); rintro e w26 ⟨rfl, hb⟩; refine ⟨_, rfl, ?_⟩; replace HB := Ext.a (below_step (Ext.s2 GE367.out (IsS66.ge HI368.out) HB.out) hb); replace HI368 := Ext.a (IsS66.below (by exact IsS66.go HI368.out) hb); replace BK367 := Ext.a (blk_below BK367.out hb); (try clear hb)) | ((with_reducible refine gate_dst (N := 6) rfl ?_); refine Ext.alloc_event (hgd := ?hg) (N := 6) (_hd := ?hd) (t := 69) (ho := ?ho) info69 ?_; (case ho => rfl); (case hd => rfl); (case hg => rfl); intro gb378 hg w27 hbox hb; have BK378 := Ext.a (hbox); have GW378 := Ext.gw hg (below_size (Ext.s2 GE367.out (IsS66.ge HI368.out) HB.out)); have GE378 := Ext.gw hg (below_size (Ext.s2 GE367.out (IsS66.ge HI368.out) HB.out)); replace HB := Ext.a (below_step (Ext.s2 GE367.out (IsS66.ge HI368.out) HB.out) hb); have NB367_378 := Ext.nt hg (blk_lt BK367.out); have NB378_367 := Ext.ng hg (blk_lt BK367.out); have NB368_378 := Ext.nt hg (IsS66.lt (by exact IsS66.go HI368.out)); have NB378_368 := Ext.ng hg (IsS66.lt (by exact IsS66.go HI368.out)); replace HI368 := Ext.a (IsS66.below (by exact IsS66.go HI368.out) hb); replace BK367 := Ext.a (blk_below BK367.out hb); clear hb hbox hg; have hnb28 := NB378_367.out; have hnc28 := NB367_378.out; have hnb29 := NB378_368.out; have hnc29 := NB368_378.out; have hcz30 := Ext.cells9 BK378.out; have hfz30 := Ext.froz9 BK378.out) | ((with_reducible refine gate_store (t := 69) (p := 6) rfl ?_); refine Ext.struct_store (hgd := ?hg) (hN := ?hn) (t := 69) (p := .tmp 6) (x := ?vo_w31) (ho := ?ho) (cells := #[.bool t377.1, .bool t377.2.1, .bool t377.2.2.1, .bool t377.2.2.2.1, .bool t377.2.2.2.2.1, .bool t377.2.2.2.2.2.1, .bool t377.2.2.2.2.2.2.1, .bool t377.2.2.2.2.2.2.2.1, .bool t377.2.2.2.2.2.2.2.2]) (haddr := ?ha) (hx := ?hx) BK378.out rfl (by kernel_rfl) rfl ?_; (case ho => rfl); (case hg => rfl); (case hn => rfl); (case ha => rfl); (case hx => first | rfl | (go_simp; done)); intro w31 hx_ hk_ hbl_; replace BK367 := Ext.a (KeepBut.blk hk_ BK367.out NB367_378.out (by simp)); replace HI368 := Ext.a (IsS66.keepb HI368.out hk_ (Ext.Typ.of BK378.out) NB368_378.out GE378.out (by decide)); replace BK378 := Ext.a (hx_); replace HB := Ext.a (hbl_ _ _ HB.out GE378.out); clear hx_ hk_ hbl_))
      replace BK367 := Ext.a (blk_drew BK367.out); replace BK378 := Ext.a (blk_drew BK378.out); replace HI368 := Ext.a (IsS66.drew HI368.out); replace HB := Ext.a (below_drew1 HB.out); refine start_ (n := 33) (S := fun w' => w'.cell? ⟨gb367, 0, none⟩ = some (.int .i64 a0_0) ∧ w'.cell? ⟨gb367, 1, none⟩ = some (.int .i64 a0_1) ∧ w'.cell? ⟨gb367, 2, none⟩ = some (.int .i64 a0_2) ∧ w'.cell? ⟨gb367, 3, none⟩ = some (.int .i64 a0_3) ∧ w'.cell? ⟨gb367, 4, none⟩ = some (.slice A0_4 l0_4.length c0_4) ∧ w'.cell? ⟨gb367, 5, none⟩ = some (.int .i64 a0_5) ∧ w'.cell? ⟨gb367, 6, none⟩ = some (.bool a0_6) ∧ w'.cell? ⟨gb367, 7, none⟩ = some (.slice A0_7 l0_7.length c0_7) ∧ w'.cell? ⟨gb367, 8, none⟩ = some (.int .i64 a0_8) ∧ w'.cell? ⟨gb367, 9, none⟩ = some (.bool a0_9) ∧ w'.cell? ⟨gb367, 10, none⟩ = some (.slice A0_10 l0_10.length c0_10) ∧ w'.cell? ⟨gb367, 11, none⟩ = some (.int .i64 a0_11) ∧ w'.cell? ⟨gb367, 12, none⟩ = some (.int .i64 a0_12) ∧ w'.cell? ⟨gb367, 13, none⟩ = some (.int .i64 a0_13) ∧ w'.cell? ⟨gb367, 14, none⟩ = some (.slice A0_14 l0_14.length c0_14) ∧ w'.cell? ⟨gb367, 15, none⟩ = some (.slice A0_15 l0_15.length c0_15) ∧ w'.cell? ⟨gb367, 16, none⟩ = some (.int .u32 a0_16) ∧ w'.cell? ⟨gb367, 17, none⟩ = some (.int .i64 a0_17)) (ds := []) #[false, false, false, false, false, false, false, false, false, false, false, false, false, false, false, false, false, false, false, false, false, false, false, false, false, false, false, false, false, false, false, false, false] (by kernel_rfl) rfl rfl (Ext.cells18 BK367.out) (fun hHeld => ?_); refine with_tabW terrierref20_Encode.tab12 terrierref20_Encode.bits12 (fun HT_ HW_ => ?_)
      generalize w31.drew = w32 at BK367 BK378 HI368 HB hHeld ⊢; refine pure_ (i := 0) (N := some 45) (v := ?_) (a' := ?_) #[true, false, false, false, false, false, false, false, false, false, false, false, false, false, false, false, false, false, false, false, false, false, false, false, false, false, false, false, false, false, false, false, false] rfl rfl (any_of HT_.out (by kernel_rfl)) (fun _ _ _ h => h) (Or.inl ⟨by rfl, ?_⟩) ?_ ?_; rotate_left
      · intro w'; go_simp; with_reducible rfl
      rotate_left
      · simp only [Act.put, Ext.sb, Ext.sz, Ext.ss, i64_w, i32_w]; rfl
      refine pure_ (i := 4) (N := some 49) (v := ?_) (a' := ?_) #[true, false, false, false, true, false, false, false, false, false, false, false, false, false, false, false, false, false, false, false, false, false, false, false, false, false, false, false, false, false, false, false, false] rfl rfl (any_of HT_.out (by kernel_rfl)) (fun _ _ _ h => h) (Or.inl ⟨by rfl, ?_⟩) ?_ ?_; rotate_left
      · intro w'; go_simp; with_reducible rfl
      rotate_left
      · simp only [Act.put, Ext.sb, Ext.sz, Ext.ss, i64_w, i32_w]; rfl
      refine pure_ (i := 8) (N := some 53) (v := ?_) (a' := ?_) #[true, false, false, false, true, false, false, false, true, false, false, false, false, false, false, false, false, false, false, false, false, false, false, false, false, false, false, false, false, false, false, false, false] rfl rfl (any_of HT_.out (by kernel_rfl)) (fun _ _ _ h => h) (Or.inl ⟨by rfl, ?_⟩) ?_ ?_; rotate_left
      · intro w'; go_simp; with_reducible rfl
      rotate_left
      · simp only [Act.put, Ext.sb, Ext.sz, Ext.ss, i64_w, i32_w]; rfl
      refine pure_ (i := 10) (N := some 55) (v := ?_) (a' := ?_) #[true, false, false, false, true, false, false, false, true, false, true, false, false, false, false, false, false, false, false, false, false, false, false, false, false, false, false, false, false, false, false, false, false] rfl rfl (any_of HT_.out (by kernel_rfl)) (fun _ _ _ h => h) (Or.inl ⟨by rfl, ?_⟩) ?_ ?_; rotate_left
      · intro w'; go_simp; with_reducible rfl
      rotate_left
      · simp only [Act.put, Ext.sb, Ext.sz, Ext.ss, i64_w, i32_w]; rfl
      refine pure_ (i := 13) (N := some 58) (v := ?_) (a' := ?_) #[true, false, false, false, true, false, false, false, true, false, true, false, false, true, false, false, false, false, false, false, false, false, false, false, false, false, false, false, false, false, false, false, false] rfl rfl (any_of HT_.out (by kernel_rfl)) (fun _ _ _ h => h) (Or.inl ⟨by rfl, ?_⟩) ?_ ?_; rotate_left
      · intro w'; go_simp; with_reducible rfl
      rotate_left
      · simp only [Act.put, Ext.sb, Ext.sz, Ext.ss, i64_w, i32_w]; rfl
      refine pure_ (i := 16) (N := some 61) (v := ?_) (a' := ?_) #[true, false, false, false, true, false, false, false, true, false, true, false, false, true, false, false, true, false, false, false, false, false, false, false, false, false, false, false, false, false, false, false, false] rfl rfl (any_of HT_.out (by kernel_rfl)) (fun _ _ _ h => h) (Or.inl ⟨by rfl, ?_⟩) ?_ ?_; rotate_left
      · intro w'; go_simp; with_reducible rfl
      rotate_left
      · simp only [Act.put, Ext.sb, Ext.sz, Ext.ss, i64_w, i32_w]; rfl
      refine pure_ (i := 19) (N := some 64) (v := ?_) (a' := ?_) #[true, false, false, false, true, false, false, false, true, false, true, false, false, true, false, false, true, false, false, true, false, false, false, false, false, false, false, false, false, false, false, false, false] rfl rfl (any_of HT_.out (by kernel_rfl)) (fun _ _ _ h => h) (Or.inl ⟨by rfl, ?_⟩) ?_ ?_; rotate_left
      · intro w'; go_simp; with_reducible rfl
      rotate_left
      · simp only [Act.put, Ext.sb, Ext.sz, Ext.ss, i64_w, i32_w]; rfl
      refine pure_ (i := 23) (N := some 68) (v := ?_) (a' := ?_) #[true, false, false, false, true, false, false, false, true, false, true, false, false, true, false, false, true, false, false, true, false, false, false, true, false, false, false, false, false, false, false, false, false] rfl rfl (any_of HT_.out (by kernel_rfl)) (fun _ _ _ h => h) (Or.inl ⟨by rfl, ?_⟩) ?_ ?_; rotate_left
      · intro w'; go_simp; with_reducible rfl
      rotate_left
      · simp only [Act.put, Ext.sb, Ext.sz, Ext.ss, i64_w, i32_w]; rfl
      refine pure_ (i := 27) (N := some 72) (v := ?_) (a' := ?_) #[true, false, false, false, true, false, false, false, true, false, true, false, false, true, false, false, true, false, false, true, false, false, false, true, false, false, false, true, false, false, false, false, false] rfl rfl (any_of HT_.out (by kernel_rfl)) (fun _ _ _ h => h) (Or.inl ⟨by rfl, ?_⟩) ?_ ?_; rotate_left
      · intro w'; go_simp; with_reducible rfl
      rotate_left
      · simp only [Act.put, Ext.sb, Ext.sz, Ext.ss, i64_w, i32_w]; rfl
      refine take_ (i := 1) (N := some 46) (v := ?_) (a' := ?_) #[true, true, false, false, true, false, false, false, true, false, true, false, false, true, false, false, true, false, false, true, false, false, false, true, false, false, false, true, false, false, false, false, false] rfl rfl (take_ofW HT_.out HW_.out (by kernel_rfl)) (fun _ _ _ h => h) (Or.inl ⟨by rfl, ?_⟩) hHeld ?_ ?_; rotate_left
      · rintro w' ⟨s0, s1, s2, s3, s4, s5, s6, s7, s8, s9, s10, s11, s12, s13, s14, s15, s16, s17⟩; go_simp; with_reducible rfl
      rotate_left
      · simp only [Act.put, Ext.sb, Ext.sz, Ext.ss, i64_w, i32_w]; rfl
      refine take_ (i := 5) (N := some 50) (v := ?_) (a' := ?_) #[true, true, false, false, true, true, false, false, true, false, true, false, false, true, false, false, true, false, false, true, false, false, false, true, false, false, false, true, false, false, false, false, false] rfl rfl (take_ofW HT_.out HW_.out (by kernel_rfl)) (fun _ _ _ h => h) (Or.inl ⟨by rfl, ?_⟩) hHeld ?_ ?_; rotate_left
      · rintro w' ⟨s0, s1, s2, s3, s4, s5, s6, s7, s8, s9, s10, s11, s12, s13, s14, s15, s16, s17⟩; go_simp; with_reducible rfl
      rotate_left
      · simp only [Act.put, Ext.sb, Ext.sz, Ext.ss, i64_w, i32_w]; rfl
      refine pure_ (i := 6) (N := some 51) (v := ?_) (a' := ?_) #[true, true, false, false, true, true, true, false, true, false, true, false, false, true, false, false, true, false, false, true, false, false, false, true, false, false, false, true, false, false, false, false, false] rfl rfl (any_of HT_.out (by kernel_rfl)) (fun _ _ _ h => h) (Or.inl ⟨by rfl, ?_⟩) ?_ ?_; rotate_left
      · intro w'; go_simp; with_reducible rfl
      rotate_left
      · simp only [Act.put, Ext.sb, Ext.sz, Ext.ss, i64_w, i32_w]; rfl
      refine pure_ (i := 7) (N := some 52) (v := ?_) (a' := ?_) #[true, true, false, false, true, true, true, true, true, false, true, false, false, true, false, false, true, false, false, true, false, false, false, true, false, false, false, true, false, false, false, false, false] rfl rfl (any_of HT_.out (by kernel_rfl)) (fun _ _ _ h => h) (Or.inl ⟨by rfl, ?_⟩) ?_ ?_; rotate_left
      · intro w'; go_simp; with_reducible rfl
      rotate_left
      · simp only [Act.put, Ext.sb, Ext.sz, Ext.ss, i64_w, i32_w]; rfl
      refine take_ (i := 9) (N := some 54) (v := ?_) (a' := ?_) #[true, true, false, false, true, true, true, true, true, true, true, false, false, true, false, false, true, false, false, true, false, false, false, true, false, false, false, true, false, false, false, false, false] rfl rfl (take_ofW HT_.out HW_.out (by kernel_rfl)) (fun _ _ _ h => h) (Or.inl ⟨by rfl, ?_⟩) hHeld ?_ ?_; rotate_left
      · rintro w' ⟨s0, s1, s2, s3, s4, s5, s6, s7, s8, s9, s10, s11, s12, s13, s14, s15, s16, s17⟩; go_simp; with_reducible rfl
      rotate_left
      · simp only [Act.put, Ext.sb, Ext.sz, Ext.ss, i64_w, i32_w]; rfl
      refine take_ (i := 11) (N := some 56) (v := ?_) (a' := ?_) #[true, true, false, false, true, true, true, true, true, true, true, true, false, true, false, false, true, false, false, true, false, false, false, true, false, false, false, true, false, false, false, false, false] rfl rfl (take_ofW HT_.out HW_.out (by kernel_rfl)) (fun _ _ _ h => h) (Or.inl ⟨by rfl, ?_⟩) hHeld ?_ ?_; rotate_left
      · rintro w' ⟨s0, s1, s2, s3, s4, s5, s6, s7, s8, s9, s10, s11, s12, s13, s14, s15, s16, s17⟩; go_simp; with_reducible rfl
      rotate_left
      · simp only [Act.put, Ext.sb, Ext.sz, Ext.ss, i64_w, i32_w]; rfl
      refine pure_ (i := 12) (N := some 57) (v := ?_) (a' := ?_) #[true, true, false, false, true, true, true, true, true, true, true, true, true, true, false, false, true, false, false, true, false, false, false, true, false, false, false, true, false, false, false, false, false] rfl rfl (any_of HT_.out (by kernel_rfl)) (fun _ _ _ h => h) (Or.inl ⟨by rfl, ?_⟩) ?_ ?_; rotate_left
      · intro w'; go_simp; with_reducible rfl
      rotate_left
      · simp only [Act.put, Ext.sb, Ext.sz, Ext.ss, i64_w, i32_w]; rfl
      refine take_ (i := 14) (N := some 59) (v := ?_) (a' := ?_) #[true, true, false, false, true, true, true, true, true, true, true, true, true, true, true, false, true, false, false, true, false, false, false, true, false, false, false, true, false, false, false, false, false] rfl rfl (take_ofW HT_.out HW_.out (by kernel_rfl)) (fun _ _ _ h => h) (Or.inl ⟨by rfl, ?_⟩) hHeld ?_ ?_; rotate_left
      · rintro w' ⟨s0, s1, s2, s3, s4, s5, s6, s7, s8, s9, s10, s11, s12, s13, s14, s15, s16, s17⟩; go_simp; with_reducible rfl
      rotate_left
      · simp only [Act.put, Ext.sb, Ext.sz, Ext.ss, i64_w, i32_w]; rfl
      refine pure_ (i := 15) (N := some 60) (v := ?_) (a' := ?_) #[true, true, false, false, true, true, true, true, true, true, true, true, true, true, true, true, true, false, false, true, false, false, false, true, false, false, false, true, false, false, false, false, false] rfl rfl (any_of HT_.out (by kernel_rfl)) (fun _ _ _ h => h) (Or.inl ⟨by rfl, ?_⟩) ?_ ?_; rotate_left
      · intro w'; go_simp; with_reducible rfl
      rotate_left
      · simp only [Act.put, Ext.sb, Ext.sz, Ext.ss, i64_w, i32_w]; rfl
      refine take_ (i := 17) (N := some 62) (v := ?_) (a' := ?_) #[true, true, false, false, true, true, true, true, true, true, true, true, true, true, true, true, true, true, false, true, false, false, false, true, false, false, false, true, false, false, false, false, false] rfl rfl (take_ofW HT_.out HW_.out (by kernel_rfl)) (fun _ _ _ h => h) (Or.inl ⟨by rfl, ?_⟩) hHeld ?_ ?_; rotate_left
      · rintro w' ⟨s0, s1, s2, s3, s4, s5, s6, s7, s8, s9, s10, s11, s12, s13, s14, s15, s16, s17⟩; go_simp; with_reducible rfl
      rotate_left
      · simp only [Act.put, Ext.sb, Ext.sz, Ext.ss, i64_w, i32_w]; rfl
      refine pure_ (i := 18) (N := some 63) (v := ?_) (a' := ?_) #[true, true, false, false, true, true, true, true, true, true, true, true, true, true, true, true, true, true, true, true, false, false, false, true, false, false, false, true, false, false, false, false, false] rfl rfl (any_of HT_.out (by kernel_rfl)) (fun _ _ _ h => h) (Or.inl ⟨by rfl, ?_⟩) ?_ ?_; rotate_left
      · intro w'; go_simp; with_reducible rfl
      rotate_left
      · simp only [Act.put, Ext.sb, Ext.sz, Ext.ss, i64_w, i32_w]; rfl
      refine take_ (i := 20) (N := some 65) (v := ?_) (a' := ?_) #[true, true, false, false, true, true, true, true, true, true, true, true, true, true, true, true, true, true, true, true, true, false, false, true, false, false, false, true, false, false, false, false, false] rfl rfl (take_ofW HT_.out HW_.out (by kernel_rfl)) (fun _ _ _ h => h) (Or.inl ⟨by rfl, ?_⟩) hHeld ?_ ?_; rotate_left
      · rintro w' ⟨s0, s1, s2, s3, s4, s5, s6, s7, s8, s9, s10, s11, s12, s13, s14, s15, s16, s17⟩; go_simp; with_reducible rfl
      rotate_left
      · simp only [Act.put, Ext.sb, Ext.sz, Ext.ss, i64_w, i32_w]; rfl
      refine pure_ (i := 21) (N := some 66) (v := ?_) (a' := ?_) #[true, true, false, false, true, true, true, true, true, true, true, true, true, true, true, true, true, true, true, true, true, true, false, true, false, false, false, true, false, false, false, false, false] rfl rfl (any_of HT_.out (by kernel_rfl)) (fun _ _ _ h => h) (Or.inl ⟨by rfl, ?_⟩) ?_ ?_; rotate_left
      · intro w'; go_simp; with_reducible rfl
      rotate_left
      · simp only [Act.put, Ext.sb, Ext.sz, Ext.ss, i64_w, i32_w]; rfl
      refine pure_ (i := 22) (N := some 67) (v := ?_) (a' := ?_) #[true, true, false, false, true, true, true, true, true, true, true, true, true, true, true, true, true, true, true, true, true, true, true, true, false, false, false, true, false, false, false, false, false] rfl rfl (any_of HT_.out (by kernel_rfl)) (fun _ _ _ h => h) (Or.inl ⟨by rfl, ?_⟩) ?_ ?_; rotate_left
      · intro w'; go_simp; with_reducible rfl
      rotate_left
      · simp only [Act.put, Ext.sb, Ext.sz, Ext.ss, i64_w, i32_w]; rfl
      refine take_ (i := 24) (N := some 69) (v := ?_) (a' := ?_) #[true, true, false, false, true, true, true, true, true, true, true, true, true, true, true, true, true, true, true, true, true, true, true, true, true, false, false, true, false, false, false, false, false] rfl rfl (take_ofW HT_.out HW_.out (by kernel_rfl)) (fun _ _ _ h => h) (Or.inl ⟨by rfl, ?_⟩) hHeld ?_ ?_; rotate_left
      · rintro w' ⟨s0, s1, s2, s3, s4, s5, s6, s7, s8, s9, s10, s11, s12, s13, s14, s15, s16, s17⟩; go_simp; with_reducible rfl
      rotate_left
      · simp only [Act.put, Ext.sb, Ext.sz, Ext.ss, i64_w, i32_w]; rfl
      refine pure_ (i := 25) (N := some 70) (v := ?_) (a' := ?_) #[true, true, false, false, true, true, true, true, true, true, true, true, true, true, true, true, true, true, true, true, true, true, true, true, true, true, false, true, false, false, false, false, false] rfl rfl (any_of HT_.out (by kernel_rfl)) (fun _ _ _ h => h) (Or.inl ⟨by rfl, ?_⟩) ?_ ?_; rotate_left
      · intro w'; go_simp; with_reducible rfl
      rotate_left
      · simp only [Act.put, Ext.sb, Ext.sz, Ext.ss, i64_w, i32_w]; rfl
      refine pure_ (i := 26) (N := some 71) (v := ?_) (a' := ?_) #[true, true, false, false, true, true, true, true, true, true, true, true, true, true, true, true, true, true, true, true, true, true, true, true, true, true, true, true, false, false, false, false, false] rfl rfl (any_of HT_.out (by kernel_rfl)) (fun _ _ _ h => h) (Or.inl ⟨by rfl, ?_⟩) ?_ ?_; rotate_left
      · intro w'; go_simp; with_reducible rfl
      rotate_left
      · simp only [Act.put, Ext.sb, Ext.sz, Ext.ss, i64_w, i32_w]; rfl
      refine take_ (i := 28) (N := some 73) (v := ?_) (a' := ?_) #[true, true, false, false, true, true, true, true, true, true, true, true, true, true, true, true, true, true, true, true, true, true, true, true, true, true, true, true, true, false, false, false, false] rfl rfl (take_ofW HT_.out HW_.out (by kernel_rfl)) (fun _ _ _ h => h) (Or.inl ⟨by rfl, ?_⟩) hHeld ?_ ?_; rotate_left
      · rintro w' ⟨s0, s1, s2, s3, s4, s5, s6, s7, s8, s9, s10, s11, s12, s13, s14, s15, s16, s17⟩; go_simp; with_reducible rfl
      rotate_left
      · simp only [Act.put, Ext.sb, Ext.sz, Ext.ss, i64_w, i32_w]; rfl
      refine pure_ (i := 29) (N := some 74) (v := ?_) (a' := ?_) #[true, true, false, false, true, true, true, true, true, true, true, true, true, true, true, true, true, true, true, true, true, true, true, true, true, true, true, true, true, true, false, false, false] rfl rfl (any_of HT_.out (by kernel_rfl)) (fun _ _ _ h => h) (Or.inl ⟨by rfl, ?_⟩) ?_ ?_; rotate_left
      · intro w'; go_simp; with_reducible rfl
      rotate_left
      · simp only [Act.put, Ext.sb, Ext.sz, Ext.ss, i64_w, i32_w]; rfl
      refine join_ (σ := Nat) 1 zb11_0 (fun s_ => [(47, .bool t379), (7, .pointer (some ⟨s_, 0, none⟩)), (48, .bool (!t379)), (75, .agg #[.bool (!t379), .bool (decide (0 < l0_10.length)), .bool a0_9, .bool ((a0_11 != 0)), .bool ((a0_12 != 0)), .bool ((a0_13 != 0)), .bool (decide (0 < l0_15.length)), .bool (decide (0 < l0_14.length)), .bool ((a0_16 != 0))])]) (fun s_ w' => (w'.cell? ⟨gb367, 0, none⟩ = some (.int .i64 a0_0) ∧ w'.cell? ⟨gb367, 1, none⟩ = some (.int .i64 a0_1) ∧ w'.cell? ⟨gb367, 2, none⟩ = some (.int .i64 a0_2) ∧ w'.cell? ⟨gb367, 3, none⟩ = some (.int .i64 a0_3) ∧ w'.cell? ⟨gb367, 4, none⟩ = some (.slice A0_4 l0_4.length c0_4) ∧ w'.cell? ⟨gb367, 5, none⟩ = some (.int .i64 a0_5) ∧ w'.cell? ⟨gb367, 6, none⟩ = some (.bool a0_6) ∧ w'.cell? ⟨gb367, 7, none⟩ = some (.slice A0_7 l0_7.length c0_7) ∧ w'.cell? ⟨gb367, 8, none⟩ = some (.int .i64 a0_8) ∧ w'.cell? ⟨gb367, 9, none⟩ = some (.bool a0_9) ∧ w'.cell? ⟨gb367, 10, none⟩ = some (.slice A0_10 l0_10.length c0_10) ∧ w'.cell? ⟨gb367, 11, none⟩ = some (.int .i64 a0_11) ∧ w'.cell? ⟨gb367, 12, none⟩ = some (.int .i64 a0_12) ∧ w'.cell? ⟨gb367, 13, none⟩ = some (.int .i64 a0_13) ∧ w'.cell? ⟨gb367, 14, none⟩ = some (.slice A0_14 l0_14.length c0_14) ∧ w'.cell? ⟨gb367, 15, none⟩ = some (.slice A0_15 l0_15.length c0_15) ∧ w'.cell? ⟨gb367, 16, none⟩ = some (.int .u32 a0_16) ∧ w'.cell? ⟨gb367, 17, none⟩ = some (.int .i64 a0_17)) ∧ (w'.heap[gb367]? = some (.cells #[.int .i64 a0_0, .int .i64 a0_1, .int .i64 a0_2, .int .i64 a0_3, .slice A0_4 l0_4.length c0_4, .int .i64 a0_5, .bool a0_6, .slice A0_7 l0_7.length c0_7, .int .i64 a0_8, .bool a0_9, .slice A0_10 l0_10.length c0_10, .int .i64 a0_11, .int .i64 a0_12, .int .i64 a0_13, .slice A0_14 l0_14.length c0_14, .slice A0_15 l0_15.length c0_15, .int .u32 a0_16, .int .i64 a0_17] 33 (0, 0))) ∧ (w'.heap[gb378]? = some (.cells #[.bool t377.1, .bool t377.2.1, .bool t377.2.2.1, .bool t377.2.2.2.1, .bool t377.2.2.2.2.1, .bool t377.2.2.2.2.2.1, .bool t377.2.2.2.2.2.2.1, .bool t377.2.2.2.2.2.2.2.1, .bool t377.2.2.2.2.2.2.2.2] 69 (0, 0))) ∧ (w'.heap[s_]? = some (.cells #[.bool false, .bool false, .bool false, .bool false, .bool false, .bool false, .bool false, .bool false, .bool false] 69 (0, 0))) ∧ (w.heap.size ≤ s_) ∧ (w.heap.size ≤ s_) ∧ (gb368 ≠ s_) ∧ (s_ ≠ gb368) ∧ (gb367 ≠ s_) ∧ (s_ ≠ gb367) ∧ (gb378 ≠ s_) ∧ (s_ ≠ gb378) ∧ (IsS66 w w w' gb368 t375 t376) ∧ (Below w.heap.size w w')) ?_ ?_
      rotate_left
      ·
       intro hCont
       refine two_ (i := 2) (j := 31) (Ni := some 47) (Nj := some 7) #[true, true, true, false, true, true, true, true, true, true, true, true, true, true, true, true, true, true, true, true, true, true, true, true, true, true, true, true, true, true, false, false, false] #[true, true, false, false, true, true, true, true, true, true, true, true, true, true, true, true, true, true, true, true, true, true, true, true, true, true, true, true, true, true, false, true, false] rfl rfl rfl rfl (two_of HT_.out (by kernel_rfl)) (by decide) (by decide) (fun K hK => ?_) (fun K hK => ?_)
       ·
        skip
        refine goes_ Try.func27 (by kernel_rfl) rfl #[.agg #[.int .i64 a0_3, .slice A0_4 l0_4.length c0_4, .int .i64 a0_5, .bool a0_6, .slice A0_7 l0_7.length c0_7, .int .i64 a0_8]] (by rfl) rfl rfl (by (try simp only [List.map_toArray, List.map_cons, List.map_nil]); first | done | rfl | (simp only [List.length_drop, List.length_take]; rfl)) ?_
        with_reducible refine (terrierref20_zeroTold.calls a0_3 _ _ l0_4 a0_5 a0_6 _ _ l0_7 a0_8 t379 _ ?side1 ?side2 ?side3 ?side4 A25.out).mono ?_
        (case side1 => first | exact Ext.kC HR0_4.out HB.out | exact Ext.nC HR0_4.out)
        (case side2 => exact HC0_4.out)
        (case side3 => first | exact Ext.kC HR0_7.out HB.out | exact Ext.nC HR0_7.out)
        (case side4 => exact HC0_7.out)
        rintro e w33 ⟨rfl, hb⟩; refine ⟨_, rfl, ?_⟩; replace HB := Ext.a (below_step (Ext.s3 GE367.out GE378.out (IsS66.ge HI368.out) HB.out) hb); replace HI368 := Ext.a (IsS66.below (by exact IsS66.go HI368.out) hb); replace BK367 := Ext.a (blk_below BK367.out hb); replace BK378 := Ext.a (blk_below BK378.out hb); (try clear hb); refine hK.out _ _ (Ext.cells18 BK367.out) (fun hHeld => ?_); clear hK K; refine norm_ (a' := ?_) ?_ ?_; rotate_left
        · show Act.put _ (some 47) _ = _; simp only [Act.put, Ext.sb, Ext.sz, Ext.ss, i64_w, i32_w]; rfl
        refine pure_ (i := 3) (N := some 48) (v := ?_) (a' := ?_) #[true, true, true, true, true, true, true, true, true, true, true, true, true, true, true, true, true, true, true, true, true, true, true, true, true, true, true, true, true, true, false, false, false] rfl rfl (any_of HT_.out (by kernel_rfl)) (fun _ _ _ h => h) (Or.inl ⟨by rfl, ?_⟩) ?_ ?_; rotate_left
        · intro w'; go_simp; with_reducible rfl
        rotate_left
        · simp only [Act.put, Ext.sb, Ext.sz, Ext.ss, i64_w, i32_w]; rfl
        refine pure_ (i := 30) (N := some 75) (v := ?_) (a' := ?_) #[true, true, true, true, true, true, true, true, true, true, true, true, true, true, true, true, true, true, true, true, true, true, true, true, true, true, true, true, true, true, true, false, false] rfl rfl (any_of HT_.out (by kernel_rfl)) (fun _ _ _ h => h) (Or.inl ⟨by rfl, ?_⟩) ?_ ?_; rotate_left
        · intro w'; go_simp; with_reducible rfl
        rotate_left
        · simp only [Act.put, Ext.sb, Ext.sz, Ext.ss, i64_w, i32_w]; rfl
        refine one_ (i := 31) (N := some 7) zb11_0 rfl rfl (one_of HT_.out (by kernel_rfl)) (by decide) (fun K hK => ?_); refine box_step ?hg (N := 7) ?hd (cs := #[.bool false, .bool false, .bool false, .bool false, .bool false, .bool false, .bool false, .bool false, .bool false]) (t := 69) ?hr ?_; (case hd => rfl); (case hg => rfl); (case hr => first | (go_simp; done) | (go_simp; rfl))
        intro gb380 hg w34 hbox hb
        have BK380 := Ext.a (hbox); have GW380 := Ext.gw hg (below_size (Ext.s3 GE367.out GE378.out (IsS66.ge HI368.out) HB.out)); have GE380 := Ext.gw hg (below_size (Ext.s3 GE367.out GE378.out (IsS66.ge HI368.out) HB.out)); replace HB := Ext.a (below_step (Ext.s3 GE367.out GE378.out (IsS66.ge HI368.out) HB.out) hb); have NB367_380 := Ext.nt hg (blk_lt BK367.out); have NB380_367 := Ext.ng hg (blk_lt BK367.out); have NB378_380 := Ext.nt hg (blk_lt BK378.out); have NB380_378 := Ext.ng hg (blk_lt BK378.out); have NB368_380 := Ext.nt hg (IsS66.lt (by exact IsS66.go HI368.out)); have NB380_368 := Ext.ng hg (IsS66.lt (by exact IsS66.go HI368.out)); replace HI368 := Ext.a (IsS66.below (by exact IsS66.go HI368.out) hb); replace BK367 := Ext.a (blk_below BK367.out hb); replace BK378 := Ext.a (blk_below BK378.out hb); clear hb hbox hg; refine hK.out _ _ (Ext.cells18 BK367.out) (fun hHeld => ?_); clear hK K; refine norm_ (a' := ?_) ?_ ?_; rotate_left
        · show Act.put _ (some 7) _ = _; simp only [Act.put, Ext.sb, Ext.sz, Ext.ss, i64_w, i32_w]; rfl
        exact norm_ (by first | (simp only [putAll, Act.put, Ext.sb, Ext.sz, Ext.ss]; done) | (simp only [putAll, Act.put, Ext.sb, Ext.sz, Ext.ss, gt_iff_lt, Int.natCast_pos]; done) | (simp [putAll, Act.put, Ext.sb, Ext.sz, Ext.ss]; done)) (hCont (gb380) _ ⟨hHeld, (by exact BK367.out), (by exact BK378.out), (by exact BK380.out), GW380.out, GE380.out, NB368_380.out, NB380_368.out, NB367_380.out, NB380_367.out, NB378_380.out, NB380_378.out, (by exact IsS66.go HI368.out), (Ext.s4 GE367.out GE378.out GE380.out (IsS66.ge HI368.out) HB.out)⟩)
       ·
        skip
        refine box_step ?hg (N := 7) ?hd (cs := #[.bool false, .bool false, .bool false, .bool false, .bool false, .bool false, .bool false, .bool false, .bool false]) (t := 69) ?hr ?_; (case hd => rfl); (case hg => rfl); (case hr => first | (go_simp; done) | (go_simp; rfl))
        intro gb380 hg w33 hbox hb
        have BK380 := Ext.a (hbox); have GW380 := Ext.gw hg (below_size (Ext.s3 GE367.out GE378.out (IsS66.ge HI368.out) HB.out)); have GE380 := Ext.gw hg (below_size (Ext.s3 GE367.out GE378.out (IsS66.ge HI368.out) HB.out)); replace HB := Ext.a (below_step (Ext.s3 GE367.out GE378.out (IsS66.ge HI368.out) HB.out) hb); have NB367_380 := Ext.nt hg (blk_lt BK367.out); have NB380_367 := Ext.ng hg (blk_lt BK367.out); have NB378_380 := Ext.nt hg (blk_lt BK378.out); have NB380_378 := Ext.ng hg (blk_lt BK378.out); have NB368_380 := Ext.nt hg (IsS66.lt (by exact IsS66.go HI368.out)); have NB380_368 := Ext.ng hg (IsS66.lt (by exact IsS66.go HI368.out)); replace HI368 := Ext.a (IsS66.below (by exact IsS66.go HI368.out) hb); replace BK367 := Ext.a (blk_below BK367.out hb); replace BK378 := Ext.a (blk_below BK378.out hb); clear hb hbox hg; refine hK.out _ _ (Ext.cells18 BK367.out) (fun hHeld => ?_); clear hK K; refine norm_ (a' := ?_) ?_ ?_; rotate_left
        · show Act.put _ (some 7) _ = _; simp only [Act.put, Ext.sb, Ext.sz, Ext.ss, i64_w, i32_w]; rfl
        refine one_ (i := 2) (N := some 47) #[true, true, true, false, true, true, true, true, true, true, true, true, true, true, true, true, true, true, true, true, true, true, true, true, true, true, true, true, true, true, false, true, false] rfl rfl (one_of HT_.out (by kernel_rfl)) (by decide) (fun K hK => ?_); refine goes_ Try.func27 (by kernel_rfl) rfl #[.agg #[.int .i64 a0_3, .slice A0_4 l0_4.length c0_4, .int .i64 a0_5, .bool a0_6, .slice A0_7 l0_7.length c0_7, .int .i64 a0_8]] (by rfl) rfl rfl (by (try simp only [List.map_toArray, List.map_cons, List.map_nil]); first | done | rfl | (simp only [List.length_drop, List.length_take]; rfl)) ?_
        with_reducible refine (terrierref20_zeroTold.calls a0_3 _ _ l0_4 a0_5 a0_6 _ _ l0_7 a0_8 t379 _ ?side1 ?side2 ?side3 ?side4 A25.out).mono ?_
        (case side1 => first | exact Ext.kC HR0_4.out HB.out | exact Ext.nC HR0_4.out)
        (case side2 => exact HC0_4.out)
        (case side3 => first | exact Ext.kC HR0_7.out HB.out | exact Ext.nC HR0_7.out)
        (case side4 => exact HC0_7.out)
        rintro e w34 ⟨rfl, hb⟩; refine ⟨_, rfl, ?_⟩; replace HB := Ext.a (below_step (Ext.s4 GE367.out GE378.out GE380.out (IsS66.ge HI368.out) HB.out) hb); replace HI368 := Ext.a (IsS66.below (by exact IsS66.go HI368.out) hb); replace BK367 := Ext.a (blk_below BK367.out hb); replace BK378 := Ext.a (blk_below BK378.out hb); replace BK380 := Ext.a (blk_below BK380.out hb); (try clear hb); refine hK.out _ _ (Ext.cells18 BK367.out) (fun hHeld => ?_); clear hK K; refine norm_ (a' := ?_) ?_ ?_; rotate_left
        · show Act.put _ (some 47) _ = _; simp only [Act.put, Ext.sb, Ext.sz, Ext.ss, i64_w, i32_w]; rfl
        refine pure_ (i := 3) (N := some 48) (v := ?_) (a' := ?_) #[true, true, true, true, true, true, true, true, true, true, true, true, true, true, true, true, true, true, true, true, true, true, true, true, true, true, true, true, true, true, false, true, false] rfl rfl (any_of HT_.out (by kernel_rfl)) (fun _ _ _ h => h) (Or.inl ⟨by rfl, ?_⟩) ?_ ?_; rotate_left
        · intro w'; go_simp; with_reducible rfl
        rotate_left
        · simp only [Act.put, Ext.sb, Ext.sz, Ext.ss, i64_w, i32_w]; rfl
        refine pure_ (i := 30) (N := some 75) (v := ?_) (a' := ?_) zb11_0 rfl rfl (any_of HT_.out (by kernel_rfl)) (fun _ _ _ h => h) (Or.inl ⟨by rfl, ?_⟩) ?_ ?_; rotate_left
        · intro w'; go_simp; with_reducible rfl
        rotate_left
        · simp only [Act.put, Ext.sb, Ext.sz, Ext.ss, i64_w, i32_w]; rfl
        exact norm_ (by first | (simp only [putAll, Act.put, Ext.sb, Ext.sz, Ext.ss]; done) | (simp only [putAll, Act.put, Ext.sb, Ext.sz, Ext.ss, gt_iff_lt, Int.natCast_pos]; done) | (simp [putAll, Act.put, Ext.sb, Ext.sz, Ext.ss]; done)) (hCont (gb380) _ ⟨hHeld, (by exact BK367.out), (by exact BK378.out), (by exact BK380.out), GW380.out, GE380.out, NB368_380.out, NB380_368.out, NB367_380.out, NB380_367.out, NB378_380.out, NB380_378.out, (by exact IsS66.go HI368.out), (Ext.s4 GE367.out GE378.out GE380.out (IsS66.ge HI368.out) HB.out)⟩)
      rintro gb380 w35 ⟨hS_, h0_, h1_, h2_, h3_, h4_, h5_, h6_, h7_, h8_, h9_, h10_, h11_, h12_⟩; have n0_ : Aside0 (w35.heap[gb367]? = some (.cells #[.int .i64 a0_0, .int .i64 a0_1, .int .i64 a0_2, .int .i64 a0_3, .slice A0_4 l0_4.length c0_4, .int .i64 a0_5, .bool a0_6, .slice A0_7 l0_7.length c0_7, .int .i64 a0_8, .bool a0_9, .slice A0_10 l0_10.length c0_10, .int .i64 a0_11, .int .i64 a0_12, .int .i64 a0_13, .slice A0_14 l0_14.length c0_14, .slice A0_15 l0_15.length c0_15, .int .u32 a0_16, .int .i64 a0_17] 33 (0, 0))) := ⟨h0_⟩; have n1_ : Aside0 (w35.heap[gb378]? = some (.cells #[.bool t377.1, .bool t377.2.1, .bool t377.2.2.1, .bool t377.2.2.2.1, .bool t377.2.2.2.2.1, .bool t377.2.2.2.2.2.1, .bool t377.2.2.2.2.2.2.1, .bool t377.2.2.2.2.2.2.2.1, .bool t377.2.2.2.2.2.2.2.2] 69 (0, 0))) := ⟨h1_⟩; have n2_ : Aside0 (w35.heap[gb380]? = some (.cells #[.bool false, .bool false, .bool false, .bool false, .bool false, .bool false, .bool false, .bool false, .bool false] 69 (0, 0))) := ⟨h2_⟩; have n3_ : Aside0 (w.heap.size ≤ gb380) := ⟨h3_⟩; have n4_ : Aside0 (w.heap.size ≤ gb380) := ⟨h4_⟩; have n5_ : Aside0 (gb368 ≠ gb380) := ⟨h5_⟩; have n6_ : Aside0 (gb380 ≠ gb368) := ⟨h6_⟩; have n7_ : Aside0 (gb367 ≠ gb380) := ⟨h7_⟩; have n8_ : Aside0 (gb380 ≠ gb367) := ⟨h8_⟩; have n9_ : Aside0 (gb378 ≠ gb380) := ⟨h9_⟩; have n10_ : Aside0 (gb380 ≠ gb378) := ⟨h10_⟩; have n11_ : Aside0 (IsS66 w w w35 gb368 t375 t376) := ⟨h11_⟩; have n12_ : Aside0 (Below w.heap.size w w35) := ⟨h12_⟩; clear BK367; clear BK378
      clear HI368; clear HB; clear h0_ h1_ h2_ h3_ h4_ h5_ h6_ h7_ h8_ h9_ h10_ h11_ h12_; have BK367 := n0_; have BK378 := n1_; have BK380 := n2_; have GW380 := n3_; have GE380 := n4_; have NB368_380 := n5_; have NB380_368 := n6_; have NB367_380 := n7_; have NB380_367 := n8_; have NB378_380 := n9_; have NB380_378 := n10_; have HI368 := n11_; have HB := n12_; clear n0_ n1_ n2_ n3_ n4_ n5_ n6_ n7_ n8_ n9_ n10_ n11_ n12_; have hHeld : w35.cell? ⟨gb367, 0, none⟩ = some (.int .i64 a0_0) ∧ w35.cell? ⟨gb367, 1, none⟩ = some (.int .i64 a0_1) ∧ w35.cell? ⟨gb367, 2, none⟩ = some (.int .i64 a0_2) ∧ w35.cell? ⟨gb367, 3, none⟩ = some (.int .i64 a0_3) ∧ w35.cell? ⟨gb367, 4, none⟩ = some (.slice A0_4 l0_4.length c0_4) ∧ w35.cell? ⟨gb367, 5, none⟩ = some (.int .i64 a0_5) ∧ w35.cell? ⟨gb367, 6, none⟩ = some (.bool a0_6) ∧ w35.cell? ⟨gb367, 7, none⟩ = some (.slice A0_7 l0_7.length c0_7) ∧ w35.cell? ⟨gb367, 8, none⟩ = some (.int .i64 a0_8) ∧ w35.cell? ⟨gb367, 9, none⟩ = some (.bool a0_9) ∧ w35.cell? ⟨gb367, 10, none⟩ = some (.slice A0_10 l0_10.length c0_10) ∧ w35.cell? ⟨gb367, 11, none⟩ = some (.int .i64 a0_11) ∧ w35.cell? ⟨gb367, 12, none⟩ = some (.int .i64 a0_12) ∧ w35.cell? ⟨gb367, 13, none⟩ = some (.int .i64 a0_13) ∧ w35.cell? ⟨gb367, 14, none⟩ = some (.slice A0_14 l0_14.length c0_14) ∧ w35.cell? ⟨gb367, 15, none⟩ = some (.slice A0_15 l0_15.length c0_15) ∧ w35.cell? ⟨gb367, 16, none⟩ = some (.int .u32 a0_16) ∧ w35.cell? ⟨gb367, 17, none⟩ = some (.int .i64 a0_17) := hS_; refine norm_ (a' := ?_) ?_ ?_
      rotate_left
      · simp only [putAll, Act.put, Ext.sb, Ext.sz, Ext.ss]; rfl
      refine one_ (i := 32) (N := none) #[true, true, true, true, true, true, true, true, true, true, true, true, true, true, true, true, true, true, true, true, true, true, true, true, true, true, true, true, true, true, true, true, true] rfl rfl (one_of HT_.out (by kernel_rfl)) (by decide) (fun K hK => ?_); have hs36 : w35.cell? ⟨gb380, 0, none⟩ = some (.bool false) := (blk_cell BK380.out 0).trans rfl; have hfs36 := blk_frozen BK380.out 0; have hns36_0 := NB367_380.out; have hns36_1 := NB378_380.out; have hms36_0 := NB380_367.out; have hms36_1 := NB380_378.out; have hs37 : w35.cell? ⟨gb380, 1, none⟩ = some (.bool false) := (blk_cell BK380.out 1).trans rfl; have hfs37 := blk_frozen BK380.out 1; have hns37_0 := NB367_380.out; have hns37_1 := NB378_380.out; have hms37_0 := NB380_367.out; have hms37_1 := NB380_378.out; have hs38 : w35.cell? ⟨gb380, 2, none⟩ = some (.bool false) := (blk_cell BK380.out 2).trans rfl; have hfs38 := blk_frozen BK380.out 2; have hns38_0 := NB367_380.out; have hns38_1 := NB378_380.out; have hms38_0 := NB380_367.out; have hms38_1 := NB380_378.out; have hs39 : w35.cell? ⟨gb380, 3, none⟩ = some (.bool false) := (blk_cell BK380.out 3).trans rfl; have hfs39 := blk_frozen BK380.out 3; have hns39_0 := NB367_380.out; have hns39_1 := NB378_380.out; have hms39_0 := NB380_367.out; have hms39_1 := NB380_378.out; have hs40 : w35.cell? ⟨gb380, 4, none⟩ = some (.bool false) := (blk_cell BK380.out 4).trans rfl; have hfs40 := blk_frozen BK380.out 4; have hns40_0 := NB367_380.out
      have hns40_1 := NB378_380.out; have hms40_0 := NB380_367.out; have hms40_1 := NB380_378.out; have hs41 : w35.cell? ⟨gb380, 5, none⟩ = some (.bool false) := (blk_cell BK380.out 5).trans rfl; have hfs41 := blk_frozen BK380.out 5; have hns41_0 := NB367_380.out; have hns41_1 := NB378_380.out; have hms41_0 := NB380_367.out; have hms41_1 := NB380_378.out; have hs42 : w35.cell? ⟨gb380, 6, none⟩ = some (.bool false) := (blk_cell BK380.out 6).trans rfl; have hfs42 := blk_frozen BK380.out 6; have hns42_0 := NB367_380.out; have hns42_1 := NB378_380.out; have hms42_0 := NB380_367.out; have hms42_1 := NB380_378.out; have hs43 : w35.cell? ⟨gb380, 7, none⟩ = some (.bool false) := (blk_cell BK380.out 7).trans rfl; have hfs43 := blk_frozen BK380.out 7; have hns43_0 := NB367_380.out; have hns43_1 := NB378_380.out; have hms43_0 := NB380_367.out; have hms43_1 := NB380_378.out; have hs44 : w35.cell? ⟨gb380, 8, none⟩ = some (.bool false) := (blk_cell BK380.out 8).trans rfl; have hfs44 := blk_frozen BK380.out 8; have hns44_0 := NB367_380.out; have hns44_1 := NB378_380.out; have hms44_0 := NB380_367.out; have hms44_1 := NB380_378.out; refine skip_ (w1 := ?_) (by rfl) rfl ?_ ?_; rotate_left
      · go_simp; rfl
      refine hK.out _ _ ⟨((cell_far (p := ⟨gb380, _, none⟩) NB367_380.out _).trans (((cell_far (p := ⟨gb380, _, none⟩) NB367_380.out _).trans (((cell_far (p := ⟨gb380, _, none⟩) NB367_380.out _).trans (((cell_far (p := ⟨gb380, _, none⟩) NB367_380.out _).trans (((cell_far (p := ⟨gb380, _, none⟩) NB367_380.out _).trans (((cell_far (p := ⟨gb380, _, none⟩) NB367_380.out _).trans (((cell_far (p := ⟨gb380, _, none⟩) NB367_380.out _).trans (((cell_far (p := ⟨gb380, _, none⟩) NB367_380.out _).trans (((cell_far (p := ⟨gb380, _, none⟩) NB367_380.out _).trans (hHeld.1)))))))))))))))))), ((cell_far (p := ⟨gb380, _, none⟩) NB367_380.out _).trans (((cell_far (p := ⟨gb380, _, none⟩) NB367_380.out _).trans (((cell_far (p := ⟨gb380, _, none⟩) NB367_380.out _).trans (((cell_far (p := ⟨gb380, _, none⟩) NB367_380.out _).trans (((cell_far (p := ⟨gb380, _, none⟩) NB367_380.out _).trans (((cell_far (p := ⟨gb380, _, none⟩) NB367_380.out _).trans (((cell_far (p := ⟨gb380, _, none⟩) NB367_380.out _).trans (((cell_far (p := ⟨gb380, _, none⟩) NB367_380.out _).trans (((cell_far (p := ⟨gb380, _, none⟩) NB367_380.out _).trans (hHeld.2.1)))))))))))))))))), ((cell_far (p := ⟨gb380, _, none⟩) NB367_380.out _).trans (((cell_far (p := ⟨gb380, _, none⟩) NB367_380.out _).trans (((cell_far (p := ⟨gb380, _, none⟩) NB367_380.out _).trans (((cell_far (p := ⟨gb380, _, none⟩) NB367_380.out _).trans (((cell_far (p := ⟨gb380, _, none⟩) NB367_380.out _).trans (((cell_far (p := ⟨gb380, _, none⟩) NB367_380.out _).trans (((cell_far (p := ⟨gb380, _, none⟩) NB367_380.out _).trans (((cell_far (p := ⟨gb380, _, none⟩) NB367_380.out _).trans (((cell_far (p := ⟨gb380, _, none⟩) NB367_380.out _).trans (hHeld.2.2.1)))))))))))))))))), ((cell_far (p := ⟨gb380, _, none⟩) NB367_380.out _).trans (((cell_far (p := ⟨gb380, _, none⟩) NB367_380.out _).trans (((cell_far (p := ⟨gb380, _, none⟩) NB367_380.out _).trans (((cell_far (p := ⟨gb380, _, none⟩) NB367_380.out _).trans (((cell_far (p := ⟨gb380, _, none⟩) NB367_380.out _).trans (((cell_far (p := ⟨gb380, _, none⟩) NB367_380.out _).trans (((cell_far (p := ⟨gb380, _, none⟩) NB367_380.out _).trans (((cell_far (p := ⟨gb380, _, none⟩) NB367_380.out _).trans (((cell_far (p := ⟨gb380, _, none⟩) NB367_380.out _).trans (hHeld.2.2.2.1)))))))))))))))))), ((cell_far (p := ⟨gb380, _, none⟩) NB367_380.out _).trans (((cell_far (p := ⟨gb380, _, none⟩) NB367_380.out _).trans (((cell_far (p := ⟨gb380, _, none⟩) NB367_380.out _).trans (((cell_far (p := ⟨gb380, _, none⟩) NB367_380.out _).trans (((cell_far (p := ⟨gb380, _, none⟩) NB367_380.out _).trans (((cell_far (p := ⟨gb380, _, none⟩) NB367_380.out _).trans (((cell_far (p := ⟨gb380, _, none⟩) NB367_380.out _).trans (((cell_far (p := ⟨gb380, _, none⟩) NB367_380.out _).trans (((cell_far (p := ⟨gb380, _, none⟩) NB367_380.out _).trans (hHeld.2.2.2.2.1)))))))))))))))))), ((cell_far (p := ⟨gb380, _, none⟩) NB367_380.out _).trans (((cell_far (p := ⟨gb380, _, none⟩) NB367_380.out _).trans (((cell_far (p := ⟨gb380, _, none⟩) NB367_380.out _).trans (((cell_far (p := ⟨gb380, _, none⟩) NB367_380.out _).trans (((cell_far (p := ⟨gb380, _, none⟩) NB367_380.out _).trans (((cell_far (p := ⟨gb380, _, none⟩) NB367_380.out _).trans (((cell_far (p := ⟨gb380, _, none⟩) NB367_380.out _).trans (((cell_far (p := ⟨gb380, _, none⟩) NB367_380.out _).trans (((cell_far (p := ⟨gb380, _, none⟩) NB367_380.out _).trans (hHeld.2.2.2.2.2.1)))))))))))))))))), ((cell_far (p := ⟨gb380, _, none⟩) NB367_380.out _).trans (((cell_far (p := ⟨gb380, _, none⟩) NB367_380.out _).trans (((cell_far (p := ⟨gb380, _, none⟩) NB367_380.out _).trans (((cell_far (p := ⟨gb380, _, none⟩) NB367_380.out _).trans (((cell_far (p := ⟨gb380, _, none⟩) NB367_380.out _).trans (((cell_far (p := ⟨gb380, _, none⟩) NB367_380.out _).trans (((cell_far (p := ⟨gb380, _, none⟩) NB367_380.out _).trans (((cell_far (p := ⟨gb380, _, none⟩) NB367_380.out _).trans (((cell_far (p := ⟨gb380, _, none⟩) NB367_380.out _).trans (hHeld.2.2.2.2.2.2.1)))))))))))))))))), ((cell_far (p := ⟨gb380, _, none⟩) NB367_380.out _).trans (((cell_far (p := ⟨gb380, _, none⟩) NB367_380.out _).trans (((cell_far (p := ⟨gb380, _, none⟩) NB367_380.out _).trans (((cell_far (p := ⟨gb380, _, none⟩) NB367_380.out _).trans (((cell_far (p := ⟨gb380, _, none⟩) NB367_380.out _).trans (((cell_far (p := ⟨gb380, _, none⟩) NB367_380.out _).trans (((cell_far (p := ⟨gb380, _, none⟩) NB367_380.out _).trans (((cell_far (p := ⟨gb380, _, none⟩) NB367_380.out _).trans (((cell_far (p := ⟨gb380, _, none⟩) NB367_380.out _).trans (hHeld.2.2.2.2.2.2.2.1)))))))))))))))))), ((cell_far (p := ⟨gb380, _, none⟩) NB367_380.out _).trans (((cell_far (p := ⟨gb380, _, none⟩) NB367_380.out _).trans (((cell_far (p := ⟨gb380, _, none⟩) NB367_380.out _).trans (((cell_far (p := ⟨gb380, _, none⟩) NB367_380.out _).trans (((cell_far (p := ⟨gb380, _, none⟩) NB367_380.out _).trans (((cell_far (p := ⟨gb380, _, none⟩) NB367_380.out _).trans (((cell_far (p := ⟨gb380, _, none⟩) NB367_380.out _).trans (((cell_far (p := ⟨gb380, _, none⟩) NB367_380.out _).trans (((cell_far (p := ⟨gb380, _, none⟩) NB367_380.out _).trans (hHeld.2.2.2.2.2.2.2.2.1)))))))))))))))))), ((cell_far (p := ⟨gb380, _, none⟩) NB367_380.out _).trans (((cell_far (p := ⟨gb380, _, none⟩) NB367_380.out _).trans (((cell_far (p := ⟨gb380, _, none⟩) NB367_380.out _).trans (((cell_far (p := ⟨gb380, _, none⟩) NB367_380.out _).trans (((cell_far (p := ⟨gb380, _, none⟩) NB367_380.out _).trans (((cell_far (p := ⟨gb380, _, none⟩) NB367_380.out _).trans (((cell_far (p := ⟨gb380, _, none⟩) NB367_380.out _).trans (((cell_far (p := ⟨gb380, _, none⟩) NB367_380.out _).trans (((cell_far (p := ⟨gb380, _, none⟩) NB367_380.out _).trans (hHeld.2.2.2.2.2.2.2.2.2.1)))))))))))))))))), ((cell_far (p := ⟨gb380, _, none⟩) NB367_380.out _).trans (((cell_far (p := ⟨gb380, _, none⟩) NB367_380.out _).trans (((cell_far (p := ⟨gb380, _, none⟩) NB367_380.out _).trans (((cell_far (p := ⟨gb380, _, none⟩) NB367_380.out _).trans (((cell_far (p := ⟨gb380, _, none⟩) NB367_380.out _).trans (((cell_far (p := ⟨gb380, _, none⟩) NB367_380.out _).trans (((cell_far (p := ⟨gb380, _, none⟩) NB367_380.out _).trans (((cell_far (p := ⟨gb380, _, none⟩) NB367_380.out _).trans (((cell_far (p := ⟨gb380, _, none⟩) NB367_380.out _).trans (hHeld.2.2.2.2.2.2.2.2.2.2.1)))))))))))))))))), ((cell_far (p := ⟨gb380, _, none⟩) NB367_380.out _).trans (((cell_far (p := ⟨gb380, _, none⟩) NB367_380.out _).trans (((cell_far (p := ⟨gb380, _, none⟩) NB367_380.out _).trans (((cell_far (p := ⟨gb380, _, none⟩) NB367_380.out _).trans (((cell_far (p := ⟨gb380, _, none⟩) NB367_380.out _).trans (((cell_far (p := ⟨gb380, _, none⟩) NB367_380.out _).trans (((cell_far (p := ⟨gb380, _, none⟩) NB367_380.out _).trans (((cell_far (p := ⟨gb380, _, none⟩) NB367_380.out _).trans (((cell_far (p := ⟨gb380, _, none⟩) NB367_380.out _).trans (hHeld.2.2.2.2.2.2.2.2.2.2.2.1)))))))))))))))))), ((cell_far (p := ⟨gb380, _, none⟩) NB367_380.out _).trans (((cell_far (p := ⟨gb380, _, none⟩) NB367_380.out _).trans (((cell_far (p := ⟨gb380, _, none⟩) NB367_380.out _).trans (((cell_far (p := ⟨gb380, _, none⟩) NB367_380.out _).trans (((cell_far (p := ⟨gb380, _, none⟩) NB367_380.out _).trans (((cell_far (p := ⟨gb380, _, none⟩) NB367_380.out _).trans (((cell_far (p := ⟨gb380, _, none⟩) NB367_380.out _).trans (((cell_far (p := ⟨gb380, _, none⟩) NB367_380.out _).trans (((cell_far (p := ⟨gb380, _, none⟩) NB367_380.out _).trans (hHeld.2.2.2.2.2.2.2.2.2.2.2.2.1)))))))))))))))))), ((cell_far (p := ⟨gb380, _, none⟩) NB367_380.out _).trans (((cell_far (p := ⟨gb380, _, none⟩) NB367_380.out _).trans (((cell_far (p := ⟨gb380, _, none⟩) NB367_380.out _).trans (((cell_far (p := ⟨gb380, _, none⟩) NB367_380.out _).trans (((cell_far (p := ⟨gb380, _, none⟩) NB367_380.out _).trans (((cell_far (p := ⟨gb380, _, none⟩) NB367_380.out _).trans (((cell_far (p := ⟨gb380, _, none⟩) NB367_380.out _).trans (((cell_far (p := ⟨gb380, _, none⟩) NB367_380.out _).trans (((cell_far (p := ⟨gb380, _, none⟩) NB367_380.out _).trans (hHeld.2.2.2.2.2.2.2.2.2.2.2.2.2.1)))))))))))))))))), ((cell_far (p := ⟨gb380, _, none⟩) NB367_380.out _).trans (((cell_far (p := ⟨gb380, _, none⟩) NB367_380.out _).trans (((cell_far (p := ⟨gb380, _, none⟩) NB367_380.out _).trans (((cell_far (p := ⟨gb380, _, none⟩) NB367_380.out _).trans (((cell_far (p := ⟨gb380, _, none⟩) NB367_380.out _).trans (((cell_far (p := ⟨gb380, _, none⟩) NB367_380.out _).trans (((cell_far (p := ⟨gb380, _, none⟩) NB367_380.out _).trans (((cell_far (p := ⟨gb380, _, none⟩) NB367_380.out _).trans (((cell_far (p := ⟨gb380, _, none⟩) NB367_380.out _).trans (hHeld.2.2.2.2.2.2.2.2.2.2.2.2.2.2.1)))))))))))))))))), ((cell_far (p := ⟨gb380, _, none⟩) NB367_380.out _).trans (((cell_far (p := ⟨gb380, _, none⟩) NB367_380.out _).trans (((cell_far (p := ⟨gb380, _, none⟩) NB367_380.out _).trans (((cell_far (p := ⟨gb380, _, none⟩) NB367_380.out _).trans (((cell_far (p := ⟨gb380, _, none⟩) NB367_380.out _).trans (((cell_far (p := ⟨gb380, _, none⟩) NB367_380.out _).trans (((cell_far (p := ⟨gb380, _, none⟩) NB367_380.out _).trans (((cell_far (p := ⟨gb380, _, none⟩) NB367_380.out _).trans (((cell_far (p := ⟨gb380, _, none⟩) NB367_380.out _).trans (hHeld.2.2.2.2.2.2.2.2.2.2.2.2.2.2.2.1)))))))))))))))))), ((cell_far (p := ⟨gb380, _, none⟩) NB367_380.out _).trans (((cell_far (p := ⟨gb380, _, none⟩) NB367_380.out _).trans (((cell_far (p := ⟨gb380, _, none⟩) NB367_380.out _).trans (((cell_far (p := ⟨gb380, _, none⟩) NB367_380.out _).trans (((cell_far (p := ⟨gb380, _, none⟩) NB367_380.out _).trans (((cell_far (p := ⟨gb380, _, none⟩) NB367_380.out _).trans (((cell_far (p := ⟨gb380, _, none⟩) NB367_380.out _).trans (((cell_far (p := ⟨gb380, _, none⟩) NB367_380.out _).trans (((cell_far (p := ⟨gb380, _, none⟩) NB367_380.out _).trans (hHeld.2.2.2.2.2.2.2.2.2.2.2.2.2.2.2.2.1)))))))))))))))))), ((cell_far (p := ⟨gb380, _, none⟩) NB367_380.out _).trans (((cell_far (p := ⟨gb380, _, none⟩) NB367_380.out _).trans (((cell_far (p := ⟨gb380, _, none⟩) NB367_380.out _).trans (((cell_far (p := ⟨gb380, _, none⟩) NB367_380.out _).trans (((cell_far (p := ⟨gb380, _, none⟩) NB367_380.out _).trans (((cell_far (p := ⟨gb380, _, none⟩) NB367_380.out _).trans (((cell_far (p := ⟨gb380, _, none⟩) NB367_380.out _).trans (((cell_far (p := ⟨gb380, _, none⟩) NB367_380.out _).trans (((cell_far (p := ⟨gb380, _, none⟩) NB367_380.out _).trans (hHeld.2.2.2.2.2.2.2.2.2.2.2.2.2.2.2.2.2))))))))))))))))))⟩ (fun hHeld => ?_)
      clear hK K; refine done_ (done_of HT_.out (by kernel_rfl)) ?_
      try go_wp2
      go_loopg [76] kj19 (fun kq v76 w' => ∃ (x76_3 : Int), v76 = .int .i64 x76_3 ∧ Aside0 (terrierref20_Encode.l0 kq x5_19 x76_3 a0_0 a0_1 a0_2 a0_3 l0_4 a0_5 a0_6 l0_7 a0_8 a0_9 l0_10 a0_11 a0_12 a0_13 l0_14 l0_15 a0_16 a0_17 t375 t376 t377.1 t377.2.1 t377.2.2.1 t377.2.2.2.1 t377.2.2.2.2.1 t377.2.2.2.2.2.1 t377.2.2.2.2.2.2.1 t377.2.2.2.2.2.2.2.1 t377.2.2.2.2.2.2.2.2 (!t379) (decide (0 < l0_10.length)) a0_9 (a0_11 != 0) (a0_12 != 0) (a0_13 != 0) (decide (0 < l0_15.length)) (decide (0 < l0_14.length)) (a0_16 != 0) = some (r1, r2)) ∧ Aside0 (kq ≤ kj19) ∧ Aside0 (w'.heap[gb367]? = some (.cells #[.int .i64 a0_0, .int .i64 a0_1, .int .i64 a0_2, .int .i64 a0_3, (.slice A0_4 l0_4.length c0_4), .int .i64 a0_5, .bool a0_6, (.slice A0_7 l0_7.length c0_7), .int .i64 a0_8, .bool a0_9, (.slice A0_10 l0_10.length c0_10), .int .i64 a0_11, .int .i64 a0_12, .int .i64 a0_13, (.slice A0_14 l0_14.length c0_14), (.slice A0_15 l0_15.length c0_15), .int .u32 a0_16, .int .i64 a0_17] 33 (0, 0))) ∧ Aside0 (w'.heap[gb378]? = some (.cells #[.bool t377.1, .bool t377.2.1, .bool t377.2.2.1, .bool t377.2.2.2.1, .bool t377.2.2.2.2.1, .bool t377.2.2.2.2.2.1, .bool t377.2.2.2.2.2.2.1, .bool t377.2.2.2.2.2.2.2.1, .bool t377.2.2.2.2.2.2.2.2] 69 (0, 0))) ∧ Aside0 (w'.heap[gb380]? = some (.cells #[.bool (!t379), .bool (decide (0 < l0_10.length)), .bool a0_9, .bool (a0_11 != 0), .bool (a0_12 != 0), .bool (a0_13 != 0), .bool (decide (0 < l0_15.length)), .bool (decide (0 < l0_14.length)), .bool (a0_16 != 0)] 69 (0, 0))) ∧ Aside0 (IsS66 w w w' gb368 t375 t376) ∧ Aside0 (Below w.heap.size w w'))
      case atStart => exact ⟨(0), (by first | rfl | (simp; done) | (simp [*]; done)), H', ⟨Nat.le_refl _⟩, ⟨by exact Ext.pb1 NB367_380.out BK367.out⟩, ⟨by exact Ext.pb1 NB378_380.out BK378.out⟩, ⟨by exact Ext.pb0 BK380.out⟩, ⟨by exact Ext.set9 (P := fun W_ => IsS66 w w W_ gb368 t375 t376) (fun W_ i u T h => IsS66.far h T NB368_380.out GE380.out (by decide) i u) (Ext.Typ.of BK380.out) HI368.out⟩, ⟨by exact Ext.s4 GE367.out GE378.out GE380.out (IsS66.ge HI368.out) HB.out⟩⟩
      case round =>
       clear H'; (try clear c26 c27 c28 c29 hcz30 hfz30); obtain ⟨x76_3, rfl, HA, HK3, BK367, BK378, BK380, HI368, HB⟩ := hrel; cases gk with
       | zero => exact absurd HA.out (by simp [terrierref20_Encode.l0])
       | succ k3 =>
        have H := HA.out; clear HA; simp only [terrierref20_Encode.l0] at H
        by_cases c45 : x76_3 < 9
        ·
         rw [if_pos c45] at H; have c45b0 := decide_eq_true c45; clear c45
         by_cases c46 : 0 ≤ x76_3
         ·
          rw [if_pos c46] at H; have c46b0 := decide_eq_true c46; clear c46; have hia47 := Ext.ia9b_cell ((!t379), (decide (0 < l0_10.length)), a0_9, (a0_11 != 0), (a0_12 != 0), (a0_13 != 0), (decide (0 < l0_15.length)), (decide (0 < l0_14.length)), (a0_16 != 0)) x76_3 BK380.out (by first | omega | exact of_decide_eq_true (by first | (with_reducible assumption) | assumption)) (by first | omega | exact of_decide_eq_true (by first | (with_reducible assumption) | assumption)); have pia1_ : (0 ≤ x76_3) = True := eq_true (by first | omega | exact of_decide_eq_true (by first | (with_reducible assumption) | assumption)); have qia1_ : (x76_3 < 9) = True := eq_true (by first | omega | exact of_decide_eq_true (by first | (with_reducible assumption) | assumption))
          by_cases c48 : Ext.ix9b ((!t379), (decide (0 < l0_10.length)), a0_9, (a0_11 != 0), (a0_12 != 0), (a0_13 != 0), (decide (0 < l0_15.length)), (decide (0 < l0_14.length)), (a0_16 != 0)) x76_3 = true
          ·
           rw [if_pos c48] at H; have c48b0 : Ext.ix9b ((!t379), (decide (0 < l0_10.length)), a0_9, (a0_11 != 0), (a0_12 != 0), (a0_13 != 0), (decide (0 < l0_15.length)), (decide (0 < l0_14.length)), (a0_16 != 0)) x76_3 = true := c48; clear c48; have hia49 := Ext.ia9b_cell (t377.1, t377.2.1, t377.2.2.1, t377.2.2.2.1, t377.2.2.2.2.1, t377.2.2.2.2.2.1, t377.2.2.2.2.2.2.1, t377.2.2.2.2.2.2.2.1, t377.2.2.2.2.2.2.2.2) x76_3 BK378.out (by first | omega | exact of_decide_eq_true (by first | (with_reducible assumption) | assumption)) (by first | omega | exact of_decide_eq_true (by first | (with_reducible assumption) | assumption)); have pia2_ : (0 ≤ x76_3) = True := eq_true (by first | omega | exact of_decide_eq_true (by first | (with_reducible assumption) | assumption)); have qia2_ : (x76_3 < 9) = True := eq_true (by first | omega | exact of_decide_eq_true (by first | (with_reducible assumption) | assumption))
           by_cases c50 : (Ext.ix9b (t377.1, t377.2.1, t377.2.2.1, t377.2.2.2.1, t377.2.2.2.2.1, t377.2.2.2.2.2.1, t377.2.2.2.2.2.2.1, t377.2.2.2.2.2.2.2.1, t377.2.2.2.2.2.2.2.2) x76_3 = true)
           ·
            rw [if_pos c50] at H; have c50b0 : Ext.ix9b (t377.1, t377.2.1, t377.2.2.1, t377.2.2.2.1, t377.2.2.2.2.1, t377.2.2.2.2.2.1, t377.2.2.2.2.2.2.1, t377.2.2.2.2.2.2.2.1, t377.2.2.2.2.2.2.2.2) x76_3 = true := c50; clear c50; have H' := Aside0.mk H; clear H; have hnb51 := NB380_367.out; have hnc51 := NB367_380.out; have hnb52 := NB380_378.out; have hnc52 := NB378_380.out; have hnb53 := NB380_368.out; have hnc53 := NB368_380.out; have hcz54 := Ext.cells9 BK380.out; have hfz54 := Ext.froz9 BK380.out; have hnb55 := NB378_367.out; have hnc55 := NB367_378.out; have hnb56 := NB378_368.out; have hnc56 := NB368_378.out; have hcz57 := Ext.cells9 BK378.out; have hfz57 := Ext.froz9 BK378.out
            as_aux_lemma =>
             go_wp2
             go_roundg k3
             case measure => have := HJ5.out; have := HJ19.out; have := HK3.out; omega
             case rel => exact ⟨(wrap64 (x76_3 + 1)), (by first | rfl | (simp; done) | (congr 1; unfold wrap64; have p_ := of_eq_true pia1_; have q_ := of_eq_true qia1_; omega)), H', ⟨by have := HJ5.out; have := HJ19.out; have := HK3.out; omega⟩, ⟨by exact BK367.out⟩, ⟨by exact BK378.out⟩, ⟨by exact BK380.out⟩, ⟨by exact IsS66.go HI368.out⟩, ⟨by exact Ext.s4 GE367.out GE378.out GE380.out (IsS66.ge HI368.out) HB.out⟩⟩
           ·
            rw [if_neg c50] at H
            have c50b0 : Ext.ix9b (t377.1, t377.2.1, t377.2.2.1, t377.2.2.2.1, t377.2.2.2.2.1, t377.2.2.2.2.2.1, t377.2.2.2.2.2.2.1, t377.2.2.2.2.2.2.2.1, t377.2.2.2.2.2.2.2.2) x76_3 = false := by simpa using c50
            clear c50; simp only [Option.some.injEq, Prod.mk.injEq] at H; obtain ⟨rfl, rfl⟩ := H; have hnb58 := NB380_367.out; have hnc58 := NB367_380.out; have hnb59 := NB380_378.out; have hnc59 := NB378_380.out; have hnb60 := NB380_368.out; have hnc60 := NB368_380.out; have hcz61 := Ext.cells9 BK380.out; have hfz61 := Ext.froz9 BK380.out; have hnb62 := NB378_367.out; have hnc62 := NB367_378.out; have hnb63 := NB378_368.out; have hnc63 := NB368_378.out; have hcz64 := Ext.cells9 BK378.out; have hfz64 := Ext.froz9 BK378.out
            as_aux_lemma =>
             go_wp2
             go_ret2
             exact ⟨_, by first | rfl | (simp [errW_none, errW_some] <;> rfl) | (simp [*, errW_none, errW_some] <;> rfl), by first | exact Ext.nl | exact Kd.R_nil _ _ _ _ _, by exact Ext.s4 GE367.out GE378.out GE380.out (IsS66.ge HI368.out) HB.out⟩
          ·
           rw [if_neg c48] at H
           have c48b0 : Ext.ix9b ((!t379), (decide (0 < l0_10.length)), a0_9, (a0_11 != 0), (a0_12 != 0), (a0_13 != 0), (decide (0 < l0_15.length)), (decide (0 < l0_14.length)), (a0_16 != 0)) x76_3 = false := by simpa using c48
           clear c48; have H' := Aside0.mk H; clear H; have hnb65 := NB380_367.out; have hnc65 := NB367_380.out; have hnb66 := NB380_378.out; have hnc66 := NB378_380.out; have hnb67 := NB380_368.out; have hnc67 := NB368_380.out; have hcz68 := Ext.cells9 BK380.out; have hfz68 := Ext.froz9 BK380.out
           as_aux_lemma =>
            go_wp2
            go_roundg k3
            case measure => have := HJ5.out; have := HJ19.out; have := HK3.out; omega
            case rel => exact ⟨(wrap64 (x76_3 + 1)), (by first | rfl | (simp; done) | (congr 1; unfold wrap64; have p_ := of_eq_true pia1_; have q_ := of_eq_true qia1_; omega)), H', ⟨by have := HJ5.out; have := HJ19.out; have := HK3.out; omega⟩, ⟨by exact BK367.out⟩, ⟨by exact BK378.out⟩, ⟨by exact BK380.out⟩, ⟨by exact IsS66.go HI368.out⟩, ⟨by exact Ext.s4 GE367.out GE378.out GE380.out (IsS66.ge HI368.out) HB.out⟩⟩
         · rw [if_neg c46] at H; exact absurd H (by simp)
        ·
         rw [if_neg c45] at H; have c45b0 := decide_eq_false c45; clear c45; have HC69 := Aside0.mk H; clear H
         go_upto_if 90 with (fail)
         go_cut [90] (fun v90 wc => ∃ (kq : Nat) (x90_68 : Bool), v90 = .bool x90_68 ∧ Aside0 (terrierref20_Encode.j3 kq x5_19 x5_19 x90_68 a0_0 a0_1 a0_2 a0_3 l0_4 a0_5 a0_6 l0_7 a0_8 a0_9 l0_10 a0_11 a0_12 a0_13 l0_14 l0_15 a0_16 a0_17 t375 t376 = some (r1, r2)) ∧ Aside0 (kq ≤ k3) ∧ Aside0 (wc.heap[gb367]? = some (.cells #[.int .i64 a0_0, .int .i64 a0_1, .int .i64 a0_2, .int .i64 a0_3, (.slice A0_4 l0_4.length c0_4), .int .i64 a0_5, .bool a0_6, (.slice A0_7 l0_7.length c0_7), .int .i64 a0_8, .bool a0_9, (.slice A0_10 l0_10.length c0_10), .int .i64 a0_11, .int .i64 a0_12, .int .i64 a0_13, (.slice A0_14 l0_14.length c0_14), (.slice A0_15 l0_15.length c0_15), .int .u32 a0_16, .int .i64 a0_17] 33 (0, 0))) ∧ Aside0 (wc.heap[gb378]? = some (.cells #[.bool t377.1, .bool t377.2.1, .bool t377.2.2.1, .bool t377.2.2.2.1, .bool t377.2.2.2.2.1, .bool t377.2.2.2.2.2.1, .bool t377.2.2.2.2.2.2.1, .bool t377.2.2.2.2.2.2.2.1, .bool t377.2.2.2.2.2.2.2.2] 69 (0, 0))) ∧ Aside0 (wc.heap[gb380]? = some (.cells #[.bool (!t379), .bool (decide (0 < l0_10.length)), .bool a0_9, .bool (a0_11 != 0), .bool (a0_12 != 0), .bool (a0_13 != 0), .bool (decide (0 < l0_15.length)), .bool (decide (0 < l0_14.length)), .bool (a0_16 != 0)] 69 (0, 0))) ∧ Aside0 (IsS66 w w wc gb368 t375 t376) ∧ Aside0 (Below w.heap.size w wc))
         case first =>
          have H := HC69.out; clear HC69
          by_cases c70 : x5_19 = 1
          case' _ =>
           rw [if_pos c70] at H; obtain ⟨c70b0, c70b1⟩ := Ext.eT c70; clear c70
           (first | rw [c70b0] | (simp only [i64_w, i32_w]; rw [c70b0]) | skip)
          rotate_left 1
          case' _ =>
           rw [if_neg c70] at H; obtain ⟨c70b0, c70b1⟩ := Ext.eF c70
           (first | rw [c70b0] | (simp only [i64_w, i32_w]; rw [c70b0]) | skip)
           by_cases c71 : x5_19 = 2
           case' _ =>
            rw [if_pos c71] at H; obtain ⟨c71b0, c71b1⟩ := Ext.eT c71; clear c71
           rotate_left 1
           case' _ =>
            rw [if_neg c71] at H; obtain ⟨c71b0, c71b1⟩ := Ext.eF c71
          all_goals (as_aux_lemma => have H' := Aside0.mk H; clear H; go_wp2; go_meet; (case rel => exact ⟨_, _, (by first | rfl | (simp; done) | (simp [*]; done)), H', ⟨by have := HJ5.out; have := HJ19.out; have := HK3.out; first | omega | exact Nat.le_refl _⟩, ⟨by exact BK367.out⟩, ⟨by exact BK378.out⟩, ⟨by exact BK380.out⟩, ⟨by exact IsS66.go HI368.out⟩, ⟨by exact Ext.s4 GE367.out GE378.out GE380.out (IsS66.ge HI368.out) HB.out⟩⟩))
         case rest =>
          clear HC69; (try clear c4 c5 c6 p6 c7 c45b0 c46b0 c48b0 c50b0 c51 c52 c53 c55 c56 c58 c59 c60 c62 c63 p64 c65 c66 c67 c70b0 c70b1 c71b0 c71b1 hcz54 hcz57 hcz61 hcz64 hcz68 hfz54 hfz57 hfz61 hfz64 hfz68); obtain ⟨kq, x90_68, rfl, HA, HJ68, BK367, BK378, BK380, HI368, HB⟩ := hcut; cases kq with
          | zero => exact absurd HA.out (by simp [terrierref20_Encode.j3])
          | succ kj68 =>
           have H := HA.out; clear HA; simp only [terrierref20_Encode.j3] at H
           by_cases c72 : x90_68 = true
           ·
            subst c72; rw [if_pos rfl] at H; replace H := Option.bind_eq_some_iff.mp H; obtain ⟨⟨t381, t382⟩, A730, H⟩ := H; (try dsimp only at H); have A73 := Aside0.mk A730; clear A730
            by_cases c74 : t382 = true
            ·
             subst c74; rw [if_pos rfl] at H; simp only [Option.some.injEq, Prod.mk.injEq] at H; obtain ⟨rfl, rfl⟩ := H; have hnb75 := NB367_378.out; have hnc75 := NB378_367.out; have hnb76 := NB367_380.out; have hnc76 := NB380_367.out; have hnb77 := NB367_368.out; have hnc77 := NB368_367.out; have hcz78 := Ext.cells18 BK367.out; have hfz78 := Ext.froz18 BK367.out
             as_aux_lemma =>
              go_wp2_with (first | ((with_reducible refine gate_callee (f := 28) rfl ?_); refine Ext.gs (some 97) rfl rfl Try.func28 #[.pointer (some ⟨gb368, 0, none⟩), .agg #[.int .i64 a0_3, .slice A0_4 l0_4.length c0_4, .int .i64 a0_5, .bool a0_6, .slice A0_7 l0_7.length c0_7, .int .i64 a0_8]] rfl ?_; (with_reducible refine (terrierref20_out_told.calls kj68 gb368 t375 t376 a0_3 _ _ l0_4 a0_5 a0_6 _ _ l0_7 a0_8 t381 true w _ ?side1 ?side2 ?side3 ?side4 ?side5 ?side6 A73.out).mono ?_); (case side1 => refine IsS66.now (wF := w) ?_; exact IsS66.go HI368.out); (case side2 => exact Ext.s4 GE367.out GE378.out GE380.out (IsS66.ge HI368.out) HB.out); (case side3 => exact HR0_4.out); (case side4 => exact HC0_4.out); (case side5 => exact HR0_7.out); (case side6 => exact HC0_7.out); rintro e w79 ⟨rfl, hi, hb⟩; refine ⟨_, rfl, ?_⟩; replace HB := Ext.a (hb); replace HI368 := Ext.a (IsS66.then (by exact IsS66.go HI368.out) hi); replace BK367 := Ext.a (IsS66.blk hi (by exact BK367.out) NB367_368.out (by decide)); replace BK378 := Ext.a (IsS66.blk hi (by exact BK378.out) NB378_368.out (by decide)); replace BK380 := Ext.a (IsS66.blk hi (by exact BK380.out) NB380_368.out (by decide)); (try clear hb hi); obtain ⟨⟨vbz80, HGz80, hgz80, hoz80⟩, hfz80⟩ := HI368.out; have hcz80_1 := cellS66_1 HGz80; have hfz80_1 := blk_frozen HGz80 1; clear HGz80 hgz80 hoz80 hfz80))
              go_ret2
              exact ⟨_, by first | rfl | (simp [errW_none, errW_some] <;> rfl) | (simp [*, errW_none, errW_some] <;> rfl), by first | exact Ext.nl | exact Kd.R_nil _ _ _ _ _, by exact Ext.s4 GE367.out GE378.out GE380.out (IsS66.ge HI368.out) HB.out⟩
            ·
             replace c74 := Bool.eq_false_iff.mpr c74; subst c74; rw [if_neg Bool.false_ne_true] at H
             by_cases c81 : a0_3 = x5_19
             ·
              rw [if_pos c81] at H; obtain ⟨c81b0, c81b1⟩ := Ext.eT c81; clear c81; simp only [Option.some.injEq, Prod.mk.injEq] at H; obtain ⟨rfl, rfl⟩ := H; have hnb82 := NB367_378.out; have hnc82 := NB378_367.out; have hnb83 := NB367_380.out; have hnc83 := NB380_367.out; have hnb84 := NB367_368.out; have hnc84 := NB368_367.out; have hcz85 := Ext.cells18 BK367.out; have hfz85 := Ext.froz18 BK367.out
              as_aux_lemma =>
               go_wp2_with (first | ((with_reducible refine gate_callee (f := 28) rfl ?_); refine Ext.gs (some 97) rfl rfl Try.func28 #[.pointer (some ⟨gb368, 0, none⟩), .agg #[.int .i64 a0_3, .slice A0_4 l0_4.length c0_4, .int .i64 a0_5, .bool a0_6, .slice A0_7 l0_7.length c0_7, .int .i64 a0_8]] rfl ?_; (with_reducible refine (terrierref20_out_told.calls kj68 gb368 t375 t376 a0_3 _ _ l0_4 a0_5 a0_6 _ _ l0_7 a0_8 t381 false w _ ?side1 ?side2 ?side3 ?side4 ?side5 ?side6 A73.out).mono ?_); (case side1 => refine IsS66.now (wF := w) ?_; exact IsS66.go HI368.out); (case side2 => exact Ext.s4 GE367.out GE378.out GE380.out (IsS66.ge HI368.out) HB.out); (case side3 => exact HR0_4.out); (case side4 => exact HC0_4.out); (case side5 => exact HR0_7.out); (case side6 => exact HC0_7.out); rintro e w86 ⟨rfl, hi, hb⟩; refine ⟨_, rfl, ?_⟩; replace HB := Ext.a (hb); replace HI368 := Ext.a (IsS66.then (by exact IsS66.go HI368.out) hi); replace BK367 := Ext.a (IsS66.blk hi (by exact BK367.out) NB367_368.out (by decide)); replace BK378 := Ext.a (IsS66.blk hi (by exact BK378.out) NB378_368.out (by decide)); replace BK380 := Ext.a (IsS66.blk hi (by exact BK380.out) NB380_368.out (by decide)); (try clear hb hi); obtain ⟨⟨vbz87, HGz87, hgz87, hoz87⟩, hfz87⟩ := HI368.out; have hcz87_1 := cellS66_1 HGz87; have hfz87_1 := blk_frozen HGz87 1; clear HGz87 hgz87 hoz87 hfz87; have hcz88 := Ext.cells18 BK367.out; have hfz88 := Ext.froz18 BK367.out; obtain ⟨⟨v383, HGz89, hgz89, hoz89⟩, hfz89⟩ := HI368.out; have hcz89_0 := (blk_cell HGz89 0).trans rfl; have hcz89_1 := cellS66_1 HGz89; have hfz89_0 := blk_frozen HGz89 0; have hfz89_1 := blk_frozen HGz89 1; have HO384 := Aside0.mk hoz89; have HX368 := Aside0.mk HGz89; have GE368 := Aside0.mk hgz89; have GW368 := GE368; have HF368 := Aside0.mk hfz89; clear HGz89 hgz89 hoz89 hfz89 HI368))
               go_ret2
               exact ⟨_, by first | rfl | (simp [errW_none, errW_some] <;> rfl) | (simp [*, errW_none, errW_some] <;> rfl), by (with_reducible repeat (first | apply Kd.R_alloc | apply Kd.R_drewN | apply Kd.R_drew)); exact Kd.R_mono (Kd.R_far (p := ⟨gb368, 1, none⟩) (Kd.R_types HO384.out HX368.out (by decide)) (fun _ hk => hk.2) _) (fun _ hk => trivial), by exact Ext.s4 GE367.out GE378.out GE380.out GE368.out HB.out⟩
             ·
              rw [if_neg c81] at H; obtain ⟨c81b0, c81b1⟩ := Ext.eF c81; simp only [Option.some.injEq, Prod.mk.injEq] at H; obtain ⟨rfl, rfl⟩ := H; have hnb90 := NB367_378.out; have hnc90 := NB378_367.out; have hnb91 := NB367_380.out; have hnc91 := NB380_367.out; have hnb92 := NB367_368.out; have hnc92 := NB368_367.out; have hcz93 := Ext.cells18 BK367.out; have hfz93 := Ext.froz18 BK367.out
              as_aux_lemma =>
               go_wp2_with (first | ((with_reducible refine gate_callee (f := 28) rfl ?_); refine Ext.gs (some 97) rfl rfl Try.func28 #[.pointer (some ⟨gb368, 0, none⟩), .agg #[.int .i64 a0_3, .slice A0_4 l0_4.length c0_4, .int .i64 a0_5, .bool a0_6, .slice A0_7 l0_7.length c0_7, .int .i64 a0_8]] rfl ?_; (with_reducible refine (terrierref20_out_told.calls kj68 gb368 t375 t376 a0_3 _ _ l0_4 a0_5 a0_6 _ _ l0_7 a0_8 t381 false w _ ?side1 ?side2 ?side3 ?side4 ?side5 ?side6 A73.out).mono ?_); (case side1 => refine IsS66.now (wF := w) ?_; exact IsS66.go HI368.out); (case side2 => exact Ext.s4 GE367.out GE378.out GE380.out (IsS66.ge HI368.out) HB.out); (case side3 => exact HR0_4.out); (case side4 => exact HC0_4.out); (case side5 => exact HR0_7.out); (case side6 => exact HC0_7.out); rintro e w94 ⟨rfl, hi, hb⟩; refine ⟨_, rfl, ?_⟩; replace HB := Ext.a (hb); replace HI368 := Ext.a (IsS66.then (by exact IsS66.go HI368.out) hi); replace BK367 := Ext.a (IsS66.blk hi (by exact BK367.out) NB367_368.out (by decide)); replace BK378 := Ext.a (IsS66.blk hi (by exact BK378.out) NB378_368.out (by decide)); replace BK380 := Ext.a (IsS66.blk hi (by exact BK380.out) NB380_368.out (by decide)); (try clear hb hi); obtain ⟨⟨vbz95, HGz95, hgz95, hoz95⟩, hfz95⟩ := HI368.out; have hcz95_1 := cellS66_1 HGz95; have hfz95_1 := blk_frozen HGz95 1; clear HGz95 hgz95 hoz95 hfz95; have hcz96 := Ext.cells18 BK367.out; have hfz96 := Ext.froz18 BK367.out))
               go_ret2
               exact ⟨_, by first | rfl | (simp [errW_none, errW_some] <;> rfl) | (simp [*, errW_none, errW_some] <;> rfl), by first | exact Ext.nl | exact Kd.R_nil _ _ _ _ _, by exact Ext.s4 GE367.out GE378.out GE380.out (IsS66.ge HI368.out) HB.out⟩
           ·
            replace c72 := Bool.eq_false_iff.mpr c72; subst c72; rw [if_neg Bool.false_ne_true] at H
            by_cases c97 : x5_19 = 4
            ·
             rw [if_pos c97] at H; obtain ⟨c97b0, c97b1⟩ := Ext.eT c97; clear c97; replace H := Option.bind_eq_some_iff.mp H; obtain ⟨⟨t385, t386⟩, A980, H⟩ := H; (try dsimp only at H); have A98 := Aside0.mk A980; clear A980; replace H := Option.bind_eq_some_iff.mp H; obtain ⟨⟨t387, t388⟩, A990, H⟩ := H; (try dsimp only at H); have A99 := Aside0.mk A990; clear A990; have H' := Aside0.mk H; clear H; have hnb100 := NB367_378.out; have hnc100 := NB378_367.out; have hnb101 := NB367_380.out; have hnc101 := NB380_367.out; have hnb102 := NB367_368.out; have hnc102 := NB368_367.out; have hcz103 := Ext.cells18 BK367.out; have hfz103 := Ext.froz18 BK367.out
             go_wp2_with (first | ((with_reducible refine gate_callee (f := 29) rfl ?_); refine Ext.gs (some 117) rfl rfl Try.func29 #[.pointer (some ⟨gb368, 0, none⟩), .bool a0_9] rfl ?_; (with_reducible refine (terrierref20_out_flag.calls gb368 t375 t376 a0_9 t385 t386 w _ ?side1 ?side2 A98.out).mono ?_); (case side1 => refine IsS66.now (wF := w) ?_; exact IsS66.go HI368.out); (case side2 => exact Ext.s4 GE367.out GE378.out GE380.out (IsS66.ge HI368.out) HB.out); rintro e w104 ⟨rfl, hi, hb⟩; refine ⟨_, rfl, ?_⟩; replace HB := Ext.a (hb); replace HI368 := Ext.a (IsS66.then (by exact IsS66.go HI368.out) hi); replace BK367 := Ext.a (IsS66.blk hi (by exact BK367.out) NB367_368.out (by decide)); replace BK378 := Ext.a (IsS66.blk hi (by exact BK378.out) NB378_368.out (by decide)); replace BK380 := Ext.a (IsS66.blk hi (by exact BK380.out) NB380_368.out (by decide)); (try clear hb hi); have hcz105 := Ext.cells18 BK367.out; have hfz105 := Ext.froz18 BK367.out) | ((with_reducible refine gate_callee (f := 30) rfl ?_); refine Ext.gs (some 122) rfl rfl Try.func30 #[.pointer (some ⟨gb368, 0, none⟩), .int .i64 (l0_10.length : Int)] rfl ?_; (with_reducible refine (terrierref20_out_count.calls gb368 t385 t386 (l0_10.length : Int) t387 t388 w _ ?side1 ?side2 A99.out).mono ?_); (case side1 => refine IsS66.now (wF := w) ?_; exact IsS66.go HI368.out); (case side2 => exact Ext.s4 GE367.out GE378.out GE380.out (IsS66.ge HI368.out) HB.out); rintro e w106 ⟨rfl, hi, hb⟩; refine ⟨_, rfl, ?_⟩; replace HB := Ext.a (hb); replace HI368 := Ext.a (IsS66.then (by exact IsS66.go HI368.out) hi); replace BK367 := Ext.a (IsS66.blk hi (by exact BK367.out) NB367_368.out (by decide)); replace BK378 := Ext.a (IsS66.blk hi (by exact BK378.out) NB378_368.out (by decide)); replace BK380 := Ext.a (IsS66.blk hi (by exact BK380.out) NB380_368.out (by decide)); (try clear hb hi); have hcz107 := Ext.cells18 BK367.out; have hfz107 := Ext.froz18 BK367.out))
             go_loopg [126] kj68 (fun kq v126 w' => ∃ (x126_5 : Int) (x369000_5 : List Int) (x369001_5 : Bool), v126 = .int .i64 x126_5 ∧ Aside0 (terrierref20_Encode.l1 kq l0_10 (l0_10.length : Int) x126_5 x369000_5 x369001_5 = some (r1, r2)) ∧ Aside0 (kq ≤ kj68) ∧ Aside0 (w'.heap[gb367]? = some (.cells #[.int .i64 a0_0, .int .i64 a0_1, .int .i64 a0_2, .int .i64 a0_3, (.slice A0_4 l0_4.length c0_4), .int .i64 a0_5, .bool a0_6, (.slice A0_7 l0_7.length c0_7), .int .i64 a0_8, .bool a0_9, (.slice A0_10 l0_10.length c0_10), .int .i64 a0_11, .int .i64 a0_12, .int .i64 a0_13, (.slice A0_14 l0_14.length c0_14), (.slice A0_15 l0_15.length c0_15), .int .u32 a0_16, .int .i64 a0_17] 33 (0, 0))) ∧ Aside0 (w'.heap[gb378]? = some (.cells #[.bool t377.1, .bool t377.2.1, .bool t377.2.2.1, .bool t377.2.2.2.1, .bool t377.2.2.2.2.1, .bool t377.2.2.2.2.2.1, .bool t377.2.2.2.2.2.2.1, .bool t377.2.2.2.2.2.2.2.1, .bool t377.2.2.2.2.2.2.2.2] 69 (0, 0))) ∧ Aside0 (w'.heap[gb380]? = some (.cells #[.bool (!t379), .bool (decide (0 < l0_10.length)), .bool a0_9, .bool (a0_11 != 0), .bool (a0_12 != 0), .bool (a0_13 != 0), .bool (decide (0 < l0_15.length)), .bool (decide (0 < l0_14.length)), .bool (a0_16 != 0)] 69 (0, 0))) ∧ Aside0 (IsS66 w w w' gb368 x369000_5 x369001_5) ∧ Aside0 (Below w.heap.size w w'))
             case atStart => exact ⟨(0), (t387), (t388), (by first | rfl | (simp; done) | (simp [*]; done)), H', ⟨Nat.le_refl _⟩, ⟨by exact BK367.out⟩, ⟨by exact BK378.out⟩, ⟨by exact BK380.out⟩, ⟨by exact IsS66.go HI368.out⟩, ⟨by exact Ext.s4 GE367.out GE378.out GE380.out (IsS66.ge HI368.out) HB.out⟩⟩
             case round =>
              clear H'; (try clear c3 c8 c10 c30 c75 c76 c77 c81b0 c81b1 c82 c83 c84 c90 c91 c92 c97b0 c97b1 c100 c101 c102 hcz103 hcz105 hcz107 hcz78 hcz80_1 hcz85 hcz87_1 hcz88 hcz89_0 hcz89_1 hcz93 hcz95_1 hcz96 hfz103 hfz105 hfz107 hfz78 hfz80_1 hfz85 hfz87_1 hfz88 hfz89_0 hfz89_1 hfz93 hfz95_1 hfz96); obtain ⟨x126_5, x369000_5, x369001_5, rfl, HA, HK5, BK367, BK378, BK380, HI368, HB⟩ := hrel; cases gk with
              | zero => exact absurd HA.out (by simp [terrierref20_Encode.l1])
              | succ k5 =>
               have H := HA.out; clear HA; simp only [terrierref20_Encode.l1] at H
               by_cases c108 : x126_5 < (l0_10.length : Int)
               ·
                rw [if_pos c108] at H; have c108b0 := decide_eq_true c108; clear c108
                by_cases c109 : 0 ≤ x126_5
                ·
                 rw [if_pos c109] at H; have c109b0 := decide_eq_true c109; clear c109
                 by_cases c110 : x126_5 < (l0_10.length : Int)
                 ·
                  rw [if_pos c110] at H; have c110b0 := decide_eq_true c110; clear c110; replace H := Option.bind_eq_some_iff.mp H; obtain ⟨⟨t391, t392⟩, A1110, H⟩ := H; (try dsimp only at H); have A111 := Aside0.mk A1110; clear A1110; have H' := Aside0.mk H; clear H; have p389 : 0 ≤ (x126_5 : Int) := of_decide_eq_true (by first | (with_reducible assumption) | assumption); have q389 : x126_5 < (l0_10.length : Int) := of_decide_eq_true (by first | (with_reducible assumption) | assumption); obtain ⟨ad389, A389_1, c389_1, A389_4, c389_4, e389, hx389_0, hx389_1, hx389_2, hx389_3, hx389_4, hx389_5, hl389_1, hi389_1, hl389_4, hi389_4⟩ := at_T27 HR0_10.out x126_5 p389 q389; cases e389; replace hx389_0 := (HB.out.cell (World.block_lt_of_cell? w _ hx389_0)).trans hx389_0; replace hx389_1 := (HB.out.cell (World.block_lt_of_cell? w _ hx389_1)).trans hx389_1; replace hx389_2 := (HB.out.cell (World.block_lt_of_cell? w _ hx389_2)).trans hx389_2; replace hx389_3 := (HB.out.cell (World.block_lt_of_cell? w _ hx389_3)).trans hx389_3; replace hx389_4 := (HB.out.cell (World.block_lt_of_cell? w _ hx389_4)).trans hx389_4; replace hx389_5 := (HB.out.cell (World.block_lt_of_cell? w _ hx389_5)).trans hx389_5; have HR389_1 := Aside0.mk hi389_1; have HC389_1 := Aside0.mk hl389_1; clear hi389_1 hl389_1; have HR389_4 := Aside0.mk hi389_4; have HC389_4 := Aside0.mk hl389_4; clear hi389_4 hl389_4; replace p389 := eq_true p389; replace q389 := eq_true q389
                  as_aux_lemma =>
                   go_wp2_with (first | ((with_reducible refine gate_dst (N := 129) rfl ?_); (try (refine gate_guard (by rfl) ?_; dsimp only)); refine Ext.struct_load (hgd := ?hg) (t := 27) (x := ?vx_129) (ho := ?ho) (cs := [.int .i64 ((rd_T27 l0_10 x126_5).f0), .slice A389_1 ((rd_T27 l0_10 x126_5).f1.f0).length c389_1, .int .i64 ((rd_T27 l0_10 x126_5).f1.f1), .bool ((rd_T27 l0_10 x126_5).f1.f2), .slice A389_4 ((rd_T27 l0_10 x126_5).f2).length c389_4, .int .i64 ((rd_T27 l0_10 x126_5).f3)]) (haddr := ?ha) Try.underlying27 rfl (by kernel_rfl) ⟨hx389_0, hx389_1, hx389_2, hx389_3, hx389_4, hx389_5, trivial⟩ ?_; (case ho => rfl); (case hg => rfl); (case ha => rfl)) | ((with_reducible refine gate_dst (N := 10) rfl ?_); refine Ext.alloc_event (hgd := ?hg) (N := 10) (_hd := ?hd) (t := 27) (ho := ?ho) info27 ?_; (case ho => rfl); (case hd => rfl); (case hg => rfl); intro gb390 hg w112 hbox hb; have BK390 := Ext.a (hbox); have GW390 := Ext.gw hg (below_size (Ext.s4 GE367.out GE378.out GE380.out (IsS66.ge HI368.out) HB.out)); have GE390 := Ext.gw hg (below_size (Ext.s4 GE367.out GE378.out GE380.out (IsS66.ge HI368.out) HB.out)); replace HB := Ext.a (below_step (Ext.s4 GE367.out GE378.out GE380.out (IsS66.ge HI368.out) HB.out) hb); have NB367_390 := Ext.nt hg (blk_lt BK367.out); have NB390_367 := Ext.ng hg (blk_lt BK367.out); have NB378_390 := Ext.nt hg (blk_lt BK378.out); have NB390_378 := Ext.ng hg (blk_lt BK378.out); have NB380_390 := Ext.nt hg (blk_lt BK380.out); have NB390_380 := Ext.ng hg (blk_lt BK380.out); have NB368_390 := Ext.nt hg (IsS66.lt (by exact IsS66.go HI368.out)); have NB390_368 := Ext.ng hg (IsS66.lt (by exact IsS66.go HI368.out)); replace HI368 := Ext.a (IsS66.below (by exact IsS66.go HI368.out) hb); replace BK367 := Ext.a (blk_below BK367.out hb); replace BK378 := Ext.a (blk_below BK378.out hb); replace BK380 := Ext.a (blk_below BK380.out hb); clear hb hbox hg; have hnb113 := NB390_367.out; have hnc113 := NB367_390.out; have hnb114 := NB390_378.out; have hnc114 := NB378_390.out; have hnb115 := NB390_380.out; have hnc115 := NB380_390.out; have hnb116 := NB390_368.out; have hnc116 := NB368_390.out; obtain ⟨hcz117_0, hcz117_1, hcz117_2, hcz117_3, hcz117_4, hcz117_5⟩ := Ext.cells6 BK390.out; obtain ⟨hfz117_0, hfz117_1, hfz117_2, hfz117_3, hfz117_4, hfz117_5⟩ := Ext.froz6 BK390.out) | ((with_reducible refine gate_store (t := 27) (p := 10) rfl ?_); refine Ext.struct_store (hgd := ?hg) (hN := ?hn) (t := 27) (p := .tmp 10) (x := ?vo_w118) (ho := ?ho) (cells := #[.int .i64 ((rd_T27 l0_10 x126_5).f0), .slice A389_1 ((rd_T27 l0_10 x126_5).f1.f0).length c389_1, .int .i64 ((rd_T27 l0_10 x126_5).f1.f1), .bool ((rd_T27 l0_10 x126_5).f1.f2), .slice A389_4 ((rd_T27 l0_10 x126_5).f2).length c389_4, .int .i64 ((rd_T27 l0_10 x126_5).f3)]) (haddr := ?ha) (hx := ?hx) BK390.out rfl (by kernel_rfl) rfl ?_; (case ho => rfl); (case hg => rfl); (case hn => rfl); (case ha => rfl); (case hx => first | rfl | (go_simp; done)); intro w118 hx_ hk_ hbl_; replace BK367 := Ext.a (KeepBut.blk hk_ BK367.out NB367_390.out (by simp)); replace BK378 := Ext.a (KeepBut.blk hk_ BK378.out NB378_390.out (by simp)); replace BK380 := Ext.a (KeepBut.blk hk_ BK380.out NB380_390.out (by simp)); replace HI368 := Ext.a (IsS66.keepb HI368.out hk_ (Ext.Typ.of BK390.out) NB368_390.out GE390.out (by decide)); replace BK390 := Ext.a (hx_); replace HB := Ext.a (hbl_ _ _ HB.out GE390.out); clear hx_ hk_ hbl_; obtain ⟨hcz119_0, hcz119_1, hcz119_2, hcz119_3, hcz119_4, hcz119_5⟩ := Ext.cells6 BK390.out; obtain ⟨hfz119_0, hfz119_1, hfz119_2, hfz119_3, hfz119_4, hfz119_5⟩ := Ext.froz6 BK390.out) | ((with_reducible refine gate_dst (N := 131) rfl ?_); (try (refine gate_guard (by rfl) ?_; dsimp only)); refine Ext.struct_load_blk (hgd := ?hg) (t := 27) (x := ?vx_131) (ho := ?ho) (haddr := ?ha) Try.underlying27 rfl (by kernel_rfl) BK390.out ?_; (case ho => rfl); (case hg => rfl); (case ha => rfl)) | ((with_reducible refine gate_callee (f := 28) rfl ?_); refine Ext.gs (some 132) rfl rfl Try.func28 #[.pointer (some ⟨gb368, 0, none⟩), .agg #[.int .i64 ((rd_T27 l0_10 x126_5).f0), .slice A389_1 ((rd_T27 l0_10 x126_5).f1.f0).length c389_1, .int .i64 ((rd_T27 l0_10 x126_5).f1.f1), .bool ((rd_T27 l0_10 x126_5).f1.f2), .slice A389_4 ((rd_T27 l0_10 x126_5).f2).length c389_4, .int .i64 ((rd_T27 l0_10 x126_5).f3)]] rfl ?_; (with_reducible refine (terrierref20_out_told.calls k5 gb368 x369000_5 x369001_5 ((rd_T27 l0_10 x126_5).f0) _ _ ((rd_T27 l0_10 x126_5).f1.f0) ((rd_T27 l0_10 x126_5).f1.f1) ((rd_T27 l0_10 x126_5).f1.f2) _ _ ((rd_T27 l0_10 x126_5).f2) ((rd_T27 l0_10 x126_5).f3) t391 t392 w _ ?side1 ?side2 ?side3 ?side4 ?side5 ?side6 A111.out).mono ?_); (case side1 => refine IsS66.now (wF := w) ?_; exact IsS66.go HI368.out); (case side2 => exact Ext.s5 GE367.out GE378.out GE380.out GE390.out (IsS66.ge HI368.out) HB.out); (case side3 => exact HR389_1.out); (case side4 => exact HC389_1.out); (case side5 => exact HR389_4.out); (case side6 => exact HC389_4.out); rintro e w120 ⟨rfl, hi, hb⟩; refine ⟨_, rfl, ?_⟩; replace HB := Ext.a (hb); replace HI368 := Ext.a (IsS66.then (by exact IsS66.go HI368.out) hi); replace BK367 := Ext.a (IsS66.blk hi (by exact BK367.out) NB367_368.out (by decide)); replace BK378 := Ext.a (IsS66.blk hi (by exact BK378.out) NB378_368.out (by decide)); replace BK380 := Ext.a (IsS66.blk hi (by exact BK380.out) NB380_368.out (by decide)); replace BK390 := Ext.a (IsS66.blk hi (by exact BK390.out) NB390_368.out (by decide)); (try clear hb hi)))
                   go_roundg k5
                   case measure => have := HJ5.out; have := HJ19.out; have := HK3.out; have := HJ68.out; have := HK5.out; omega
                   case rel => exact ⟨(wrap64 (x126_5 + 1)), (t391), (t392), (by first | rfl | (simp; done) | (simp [*]; done)), H', ⟨by have := HJ5.out; have := HJ19.out; have := HK3.out; have := HJ68.out; have := HK5.out; omega⟩, ⟨by exact BK367.out⟩, ⟨by exact BK378.out⟩, ⟨by exact BK380.out⟩, ⟨by exact IsS66.go HI368.out⟩, ⟨by exact Ext.s5 GE367.out GE378.out GE380.out GE390.out (IsS66.ge HI368.out) HB.out⟩⟩
                 · rw [if_neg c110] at H; exact absurd H (by simp)
                · rw [if_neg c109] at H; exact absurd H (by simp)
               ·
                rw [if_neg c108] at H; have c108b0 := decide_eq_false c108; clear c108
                by_cases c121 : x369001_5 = true
                ·
                 subst c121; rw [if_pos rfl] at H; simp only [Option.some.injEq, Prod.mk.injEq] at H; obtain ⟨rfl, rfl⟩ := H; obtain ⟨⟨vbz122, HGz122, hgz122, hoz122⟩, hfz122⟩ := HI368.out; have hcz122_1 := cellS66_1 HGz122; have hfz122_1 := blk_frozen HGz122 1; clear HGz122 hgz122 hoz122 hfz122
                 as_aux_lemma =>
                  go_wp2
                  go_ret2
                  exact ⟨_, by first | rfl | (simp [errW_none, errW_some] <;> rfl) | (simp [*, errW_none, errW_some] <;> rfl), by first | exact Ext.nl | exact Kd.R_nil _ _ _ _ _, by exact Ext.s4 GE367.out GE378.out GE380.out (IsS66.ge HI368.out) HB.out⟩
                ·
                 replace c121 := Bool.eq_false_iff.mpr c121; subst c121; rw [if_neg Bool.false_ne_true] at H; simp only [Option.some.injEq, Prod.mk.injEq] at H; obtain ⟨rfl, rfl⟩ := H; obtain ⟨⟨vbz123, HGz123, hgz123, hoz123⟩, hfz123⟩ := HI368.out; have hcz123_1 := cellS66_1 HGz123; have hfz123_1 := blk_frozen HGz123 1; clear HGz123 hgz123 hoz123 hfz123; obtain ⟨⟨v393, HGz124, hgz124, hoz124⟩, hfz124⟩ := HI368.out; have hcz124_0 := (blk_cell HGz124 0).trans rfl; have hcz124_1 := cellS66_1 HGz124; have hfz124_0 := blk_frozen HGz124 0; have hfz124_1 := blk_frozen HGz124 1; have HO394 := Aside0.mk hoz124; have HX368 := Aside0.mk HGz124; have GE368 := Aside0.mk hgz124; have GW368 := GE368; have HF368 := Aside0.mk hfz124; clear HGz124 hgz124 hoz124 hfz124 HI368
                 as_aux_lemma =>
                  go_wp2
                  go_ret2
                  exact ⟨_, by first | rfl | (simp [errW_none, errW_some] <;> rfl) | (simp [*, errW_none, errW_some] <;> rfl), by exact Ext.nR HO394.out, by exact Ext.s4 GE367.out GE378.out GE380.out GE368.out HB.out⟩
            ·
             rw [if_neg c97] at H; obtain ⟨c97b0, c97b1⟩ := Ext.eF c97
             by_cases c125 : x5_19 = 6
             ·
              rw [if_pos c125] at H; obtain ⟨c125b0, c125b1⟩ := Ext.eT c125; clear c125; replace H := Option.bind_eq_some_iff.mp H; obtain ⟨⟨t395, t396⟩, A1260, H⟩ := H; (try dsimp only at H); have A126 := Aside0.mk A1260; clear A1260; replace H := Option.bind_eq_some_iff.mp H; obtain ⟨⟨t397, t398⟩, A1270, H⟩ := H; (try dsimp only at H); have A127 := Aside0.mk A1270; clear A1270
              by_cases c128 : t398 = true
              ·
               subst c128; rw [if_pos rfl] at H; simp only [Option.some.injEq, Prod.mk.injEq] at H; obtain ⟨rfl, rfl⟩ := H; have hnb129 := NB367_378.out; have hnc129 := NB378_367.out; have hnb130 := NB367_380.out; have hnc130 := NB380_367.out; have hnb131 := NB367_368.out; have hnc131 := NB368_367.out; have hcz132 := Ext.cells18 BK367.out; have hfz132 := Ext.froz18 BK367.out
               as_aux_lemma =>
                go_wp2_with (first | ((with_reducible refine gate_callee (f := 25) rfl ?_); refine Ext.gs (some 139) rfl rfl Try.func25 #[.pointer (some ⟨gb368, 0, none⟩), .int .i64 a0_11] rfl ?_; (with_reducible refine (terrierref20_out_num.calls kj68 gb368 t375 t376 a0_11 t395 t396 w _ ?side1 ?side2 A126.out).mono ?_); (case side1 => refine IsS66.now (wF := w) ?_; exact IsS66.go HI368.out); (case side2 => exact Ext.s4 GE367.out GE378.out GE380.out (IsS66.ge HI368.out) HB.out); rintro e w133 ⟨rfl, hi, hb⟩; refine ⟨_, rfl, ?_⟩; replace HB := Ext.a (hb); replace HI368 := Ext.a (IsS66.then (by exact IsS66.go HI368.out) hi); replace BK367 := Ext.a (IsS66.blk hi (by exact BK367.out) NB367_368.out (by decide)); replace BK378 := Ext.a (IsS66.blk hi (by exact BK378.out) NB378_368.out (by decide)); replace BK380 := Ext.a (IsS66.blk hi (by exact BK380.out) NB380_368.out (by decide)); (try clear hb hi); have hcz134 := Ext.cells18 BK367.out; have hfz134 := Ext.froz18 BK367.out) | ((with_reducible refine gate_callee (f := 25) rfl ?_); refine Ext.gs (some 143) rfl rfl Try.func25 #[.pointer (some ⟨gb368, 0, none⟩), .int .i64 a0_12] rfl ?_; (with_reducible refine (terrierref20_out_num.calls kj68 gb368 t395 t396 a0_12 t397 true w _ ?side1 ?side2 A127.out).mono ?_); (case side1 => refine IsS66.now (wF := w) ?_; exact IsS66.go HI368.out); (case side2 => exact Ext.s4 GE367.out GE378.out GE380.out (IsS66.ge HI368.out) HB.out); rintro e w135 ⟨rfl, hi, hb⟩; refine ⟨_, rfl, ?_⟩; replace HB := Ext.a (hb); replace HI368 := Ext.a (IsS66.then (by exact IsS66.go HI368.out) hi); replace BK367 := Ext.a (IsS66.blk hi (by exact BK367.out) NB367_368.out (by decide)); replace BK378 := Ext.a (IsS66.blk hi (by exact BK378.out) NB378_368.out (by decide)); replace BK380 := Ext.a (IsS66.blk hi (by exact BK380.out) NB380_368.out (by decide)); (try clear hb hi); obtain ⟨⟨vbz136, HGz136, hgz136, hoz136⟩, hfz136⟩ := HI368.out; have hcz136_1 := cellS66_1 HGz136; have hfz136_1 := blk_frozen HGz136 1; clear HGz136 hgz136 hoz136 hfz136))
                go_ret2
                exact ⟨_, by first | rfl | (simp [errW_none, errW_some] <;> rfl) | (simp [*, errW_none, errW_some] <;> rfl), by first | exact Ext.nl | exact Kd.R_nil _ _ _ _ _, by exact Ext.s4 GE367.out GE378.out GE380.out (IsS66.ge HI368.out) HB.out⟩
              ·
               replace c128 := Bool.eq_false_iff.mpr c128; subst c128; rw [if_neg Bool.false_ne_true] at H; simp only [Option.some.injEq, Prod.mk.injEq] at H; obtain ⟨rfl, rfl⟩ := H; have hnb137 := NB367_378.out; have hnc137 := NB378_367.out; have hnb138 := NB367_380.out; have hnc138 := NB380_367.out; have hnb139 := NB367_368.out; have hnc139 := NB368_367.out; have hcz140 := Ext.cells18 BK367.out; have hfz140 := Ext.froz18 BK367.out
               as_aux_lemma =>
                go_wp2_with (first | ((with_reducible refine gate_callee (f := 25) rfl ?_); refine Ext.gs (some 139) rfl rfl Try.func25 #[.pointer (some ⟨gb368, 0, none⟩), .int .i64 a0_11] rfl ?_; (with_reducible refine (terrierref20_out_num.calls kj68 gb368 t375 t376 a0_11 t395 t396 w _ ?side1 ?side2 A126.out).mono ?_); (case side1 => refine IsS66.now (wF := w) ?_; exact IsS66.go HI368.out); (case side2 => exact Ext.s4 GE367.out GE378.out GE380.out (IsS66.ge HI368.out) HB.out); rintro e w141 ⟨rfl, hi, hb⟩; refine ⟨_, rfl, ?_⟩; replace HB := Ext.a (hb); replace HI368 := Ext.a (IsS66.then (by exact IsS66.go HI368.out) hi); replace BK367 := Ext.a (IsS66.blk hi (by exact BK367.out) NB367_368.out (by decide)); replace BK378 := Ext.a (IsS66.blk hi (by exact BK378.out) NB378_368.out (by decide)); replace BK380 := Ext.a (IsS66.blk hi (by exact BK380.out) NB380_368.out (by decide)); (try clear hb hi); have hcz142 := Ext.cells18 BK367.out; have hfz142 := Ext.froz18 BK367.out) | ((with_reducible refine gate_callee (f := 25) rfl ?_); refine Ext.gs (some 143) rfl rfl Try.func25 #[.pointer (some ⟨gb368, 0, none⟩), .int .i64 a0_12] rfl ?_; (with_reducible refine (terrierref20_out_num.calls kj68 gb368 t395 t396 a0_12 t397 false w _ ?side1 ?side2 A127.out).mono ?_); (case side1 => refine IsS66.now (wF := w) ?_; exact IsS66.go HI368.out); (case side2 => exact Ext.s4 GE367.out GE378.out GE380.out (IsS66.ge HI368.out) HB.out); rintro e w143 ⟨rfl, hi, hb⟩; refine ⟨_, rfl, ?_⟩; replace HB := Ext.a (hb); replace HI368 := Ext.a (IsS66.then (by exact IsS66.go HI368.out) hi); replace BK367 := Ext.a (IsS66.blk hi (by exact BK367.out) NB367_368.out (by decide)); replace BK378 := Ext.a (IsS66.blk hi (by exact BK378.out) NB378_368.out (by decide)); replace BK380 := Ext.a (IsS66.blk hi (by exact BK380.out) NB380_368.out (by decide)); (try clear hb hi); obtain ⟨⟨vbz144, HGz144, hgz144, hoz144⟩, hfz144⟩ := HI368.out; have hcz144_1 := cellS66_1 HGz144; have hfz144_1 := blk_frozen HGz144 1; clear HGz144 hgz144 hoz144 hfz144; obtain ⟨⟨v399, HGz145, hgz145, hoz145⟩, hfz145⟩ := HI368.out; have hcz145_0 := (blk_cell HGz145 0).trans rfl; have hcz145_1 := cellS66_1 HGz145; have hfz145_0 := blk_frozen HGz145 0; have hfz145_1 := blk_frozen HGz145 1; have HO400 := Aside0.mk hoz145; have HX368 := Aside0.mk HGz145; have GE368 := Aside0.mk hgz145; have GW368 := GE368; have HF368 := Aside0.mk hfz145; clear HGz145 hgz145 hoz145 hfz145 HI368))
                go_ret2
                exact ⟨_, by first | rfl | (simp [errW_none, errW_some] <;> rfl) | (simp [*, errW_none, errW_some] <;> rfl), by exact Ext.nR HO400.out, by exact Ext.s4 GE367.out GE378.out GE380.out GE368.out HB.out⟩
             ·
              rw [if_neg c125] at H; obtain ⟨c125b0, c125b1⟩ := Ext.eF c125; have HC146 := Aside0.mk H; clear H
              go_upto_if 144 with (fail)
              go_cut [144] (fun v144 wc => ∃ (kq : Nat) (x144_145 : Bool), v144 = .bool x144_145 ∧ Aside0 (terrierref20_Encode.j5 kq x5_19 x144_145 a0_0 a0_1 a0_2 a0_3 l0_4 a0_5 a0_6 l0_7 a0_8 a0_9 l0_10 a0_11 a0_12 a0_13 l0_14 l0_15 a0_16 a0_17 t375 t376 = some (r1, r2)) ∧ Aside0 (kq ≤ kj68) ∧ Aside0 (wc.heap[gb367]? = some (.cells #[.int .i64 a0_0, .int .i64 a0_1, .int .i64 a0_2, .int .i64 a0_3, (.slice A0_4 l0_4.length c0_4), .int .i64 a0_5, .bool a0_6, (.slice A0_7 l0_7.length c0_7), .int .i64 a0_8, .bool a0_9, (.slice A0_10 l0_10.length c0_10), .int .i64 a0_11, .int .i64 a0_12, .int .i64 a0_13, (.slice A0_14 l0_14.length c0_14), (.slice A0_15 l0_15.length c0_15), .int .u32 a0_16, .int .i64 a0_17] 33 (0, 0))) ∧ Aside0 (wc.heap[gb378]? = some (.cells #[.bool t377.1, .bool t377.2.1, .bool t377.2.2.1, .bool t377.2.2.2.1, .bool t377.2.2.2.2.1, .bool t377.2.2.2.2.2.1, .bool t377.2.2.2.2.2.2.1, .bool t377.2.2.2.2.2.2.2.1, .bool t377.2.2.2.2.2.2.2.2] 69 (0, 0))) ∧ Aside0 (wc.heap[gb380]? = some (.cells #[.bool (!t379), .bool (decide (0 < l0_10.length)), .bool a0_9, .bool (a0_11 != 0), .bool (a0_12 != 0), .bool (a0_13 != 0), .bool (decide (0 < l0_15.length)), .bool (decide (0 < l0_14.length)), .bool (a0_16 != 0)] 69 (0, 0))) ∧ Aside0 (IsS66 w w wc gb368 t375 t376) ∧ Aside0 (Below w.heap.size w wc))
              case first =>
               have H := HC146.out; clear HC146
               by_cases c147 : x5_19 = 8
               case' _ =>
                rw [if_pos c147] at H; obtain ⟨c147b0, c147b1⟩ := Ext.eT c147; clear c147
                (first | rw [c147b0] | (simp only [i64_w, i32_w]; rw [c147b0]) | skip)
               rotate_left 1
               case' _ =>
                rw [if_neg c147] at H; obtain ⟨c147b0, c147b1⟩ := Ext.eF c147
                (first | rw [c147b0] | (simp only [i64_w, i32_w]; rw [c147b0]) | skip)
               all_goals (as_aux_lemma => have H' := Aside0.mk H; clear H; go_wp2; go_meet; (case rel => exact ⟨_, _, (by first | rfl | (simp; done) | (simp [*]; done)), H', ⟨by have := HJ5.out; have := HJ19.out; have := HK3.out; have := HJ68.out; first | omega | exact Nat.le_refl _⟩, ⟨by exact BK367.out⟩, ⟨by exact BK378.out⟩, ⟨by exact BK380.out⟩, ⟨by exact IsS66.go HI368.out⟩, ⟨by exact Ext.s4 GE367.out GE378.out GE380.out (IsS66.ge HI368.out) HB.out⟩⟩))
              case rest =>
               clear HC146; (try clear p3 q3 hx3 c12 c13 c14 c25 c38 p38 q38 hx38 c97b0 c97b1 c108b0 c109b0 c110b0 c113 c114 c115 c116 c125b0 c125b1 c129 c130 c131 c137 c138 c139 c147b0 c147b1 hcz117_0 hcz117_1 hcz117_2 hcz117_3 hcz117_4 hcz117_5 hcz119_0 hcz119_1 hcz119_2 hcz119_3 hcz119_4 hcz119_5 hcz122_1 hcz123_1 hcz124_0 hcz124_1 hcz132 hcz134 hcz136_1 hcz140 hcz142 hcz144_1 hcz145_0 hcz145_1 hfz117_0 hfz117_1 hfz117_2 hfz117_3 hfz117_4 hfz117_5 hfz119_0 hfz119_1 hfz119_2 hfz119_3 hfz119_4 hfz119_5 hfz122_1 hfz123_1 hfz124_0 hfz124_1 hfz132 hfz134 hfz136_1 hfz140 hfz142 hfz144_1 hfz145_0 hfz145_1 hx389_0 hx389_1 hx389_2 hx389_3 hx389_4 hx389_5 p389 q389); obtain ⟨kq, x144_145, rfl, HA, HJ145, BK367, BK378, BK380, HI368, HB⟩ := hcut; cases kq with
               | zero => exact absurd HA.out (by simp [terrierref20_Encode.j5])
               | succ kj145 =>
                have H := HA.out; clear HA; simp only [terrierref20_Encode.j5] at H
                by_cases c148 : x144_145 = true
                ·
                 subst c148; rw [if_pos rfl] at H; replace H := Option.bind_eq_some_iff.mp H; obtain ⟨⟨t401, t402⟩, A1490, H⟩ := H; (try dsimp only at H); have A149 := Aside0.mk A1490; clear A1490; replace H := Option.bind_eq_some_iff.mp H; obtain ⟨⟨t403, t404⟩, A1500, H⟩ := H; (try dsimp only at H); have A150 := Aside0.mk A1500; clear A1500; replace H := Option.bind_eq_some_iff.mp H; obtain ⟨⟨t405, t406⟩, A1510, H⟩ := H; (try dsimp only at H); have A151 := Aside0.mk A1510; clear A1510
                 by_cases c152 : t406 = true
                 ·
                  subst c152; rw [if_pos rfl] at H; simp only [Option.some.injEq, Prod.mk.injEq] at H; obtain ⟨rfl, rfl⟩ := H; have hnb153 := NB367_378.out; have hnc153 := NB378_367.out; have hnb154 := NB367_380.out; have hnc154 := NB380_367.out; have hnb155 := NB367_368.out; have hnc155 := NB368_367.out; have hcz156 := Ext.cells18 BK367.out; have hfz156 := Ext.froz18 BK367.out
                  as_aux_lemma =>
                   go_wp2_with (first | ((with_reducible refine gate_callee (f := 25) rfl ?_); refine Ext.gs (some 150) rfl rfl Try.func25 #[.pointer (some ⟨gb368, 0, none⟩), .int .i64 a0_11] rfl ?_; (with_reducible refine (terrierref20_out_num.calls kj145 gb368 t375 t376 a0_11 t401 t402 w _ ?side1 ?side2 A149.out).mono ?_); (case side1 => refine IsS66.now (wF := w) ?_; exact IsS66.go HI368.out); (case side2 => exact Ext.s4 GE367.out GE378.out GE380.out (IsS66.ge HI368.out) HB.out); rintro e w157 ⟨rfl, hi, hb⟩; refine ⟨_, rfl, ?_⟩; replace HB := Ext.a (hb); replace HI368 := Ext.a (IsS66.then (by exact IsS66.go HI368.out) hi); replace BK367 := Ext.a (IsS66.blk hi (by exact BK367.out) NB367_368.out (by decide)); replace BK378 := Ext.a (IsS66.blk hi (by exact BK378.out) NB378_368.out (by decide)); replace BK380 := Ext.a (IsS66.blk hi (by exact BK380.out) NB380_368.out (by decide)); (try clear hb hi); have hcz158 := Ext.cells18 BK367.out; have hfz158 := Ext.froz18 BK367.out) | ((with_reducible refine gate_callee (f := 25) rfl ?_); refine Ext.gs (some 154) rfl rfl Try.func25 #[.pointer (some ⟨gb368, 0, none⟩), .int .i64 a0_12] rfl ?_; (with_reducible refine (terrierref20_out_num.calls kj145 gb368 t401 t402 a0_12 t403 t404 w _ ?side1 ?side2 A150.out).mono ?_); (case side1 => refine IsS66.now (wF := w) ?_; exact IsS66.go HI368.out); (case side2 => exact Ext.s4 GE367.out GE378.out GE380.out (IsS66.ge HI368.out) HB.out); rintro e w159 ⟨rfl, hi, hb⟩; refine ⟨_, rfl, ?_⟩; replace HB := Ext.a (hb); replace HI368 := Ext.a (IsS66.then (by exact IsS66.go HI368.out) hi); replace BK367 := Ext.a (IsS66.blk hi (by exact BK367.out) NB367_368.out (by decide)); replace BK378 := Ext.a (IsS66.blk hi (by exact BK378.out) NB378_368.out (by decide)); replace BK380 := Ext.a (IsS66.blk hi (by exact BK380.out) NB380_368.out (by decide)); (try clear hb hi); have hcz160 := Ext.cells18 BK367.out; have hfz160 := Ext.froz18 BK367.out) | ((with_reducible refine gate_callee (f := 29) rfl ?_); refine Ext.gs (some 158) rfl rfl Try.func29 #[.pointer (some ⟨gb368, 0, none⟩), .bool a0_9] rfl ?_; (with_reducible refine (terrierref20_out_flag.calls gb368 t403 t404 a0_9 t405 true w _ ?side1 ?side2 A151.out).mono ?_); (case side1 => refine IsS66.now (wF := w) ?_; exact IsS66.go HI368.out); (case side2 => exact Ext.s4 GE367.out GE378.out GE380.out (IsS66.ge HI368.out) HB.out); rintro e w161 ⟨rfl, hi, hb⟩; refine ⟨_, rfl, ?_⟩; replace HB := Ext.a (hb); replace HI368 := Ext.a (IsS66.then (by exact IsS66.go HI368.out) hi); replace BK367 := Ext.a (IsS66.blk hi (by exact BK367.out) NB367_368.out (by decide)); replace BK378 := Ext.a (IsS66.blk hi (by exact BK378.out) NB378_368.out (by decide)); replace BK380 := Ext.a (IsS66.blk hi (by exact BK380.out) NB380_368.out (by decide)); (try clear hb hi); obtain ⟨⟨vbz162, HGz162, hgz162, hoz162⟩, hfz162⟩ := HI368.out; have hcz162_1 := cellS66_1 HGz162; have hfz162_1 := blk_frozen HGz162 1; clear HGz162 hgz162 hoz162 hfz162))
                   go_ret2
                   exact ⟨_, by first | rfl | (simp [errW_none, errW_some] <;> rfl) | (simp [*, errW_none, errW_some] <;> rfl), by first | exact Ext.nl | exact Kd.R_nil _ _ _ _ _, by exact Ext.s4 GE367.out GE378.out GE380.out (IsS66.ge HI368.out) HB.out⟩
                 ·
                  replace c152 := Bool.eq_false_iff.mpr c152; subst c152; rw [if_neg Bool.false_ne_true] at H; simp only [Option.some.injEq, Prod.mk.injEq] at H; obtain ⟨rfl, rfl⟩ := H; have hnb163 := NB367_378.out; have hnc163 := NB378_367.out; have hnb164 := NB367_380.out; have hnc164 := NB380_367.out; have hnb165 := NB367_368.out; have hnc165 := NB368_367.out; have hcz166 := Ext.cells18 BK367.out; have hfz166 := Ext.froz18 BK367.out
                  as_aux_lemma =>
                   go_wp2_with (first | ((with_reducible refine gate_callee (f := 25) rfl ?_); refine Ext.gs (some 150) rfl rfl Try.func25 #[.pointer (some ⟨gb368, 0, none⟩), .int .i64 a0_11] rfl ?_; (with_reducible refine (terrierref20_out_num.calls kj145 gb368 t375 t376 a0_11 t401 t402 w _ ?side1 ?side2 A149.out).mono ?_); (case side1 => refine IsS66.now (wF := w) ?_; exact IsS66.go HI368.out); (case side2 => exact Ext.s4 GE367.out GE378.out GE380.out (IsS66.ge HI368.out) HB.out); rintro e w167 ⟨rfl, hi, hb⟩; refine ⟨_, rfl, ?_⟩; replace HB := Ext.a (hb); replace HI368 := Ext.a (IsS66.then (by exact IsS66.go HI368.out) hi); replace BK367 := Ext.a (IsS66.blk hi (by exact BK367.out) NB367_368.out (by decide)); replace BK378 := Ext.a (IsS66.blk hi (by exact BK378.out) NB378_368.out (by decide)); replace BK380 := Ext.a (IsS66.blk hi (by exact BK380.out) NB380_368.out (by decide)); (try clear hb hi); have hcz168 := Ext.cells18 BK367.out; have hfz168 := Ext.froz18 BK367.out) | ((with_reducible refine gate_callee (f := 25) rfl ?_); refine Ext.gs (some 154) rfl rfl Try.func25 #[.pointer (some ⟨gb368, 0, none⟩), .int .i64 a0_12] rfl ?_; (with_reducible refine (terrierref20_out_num.calls kj145 gb368 t401 t402 a0_12 t403 t404 w _ ?side1 ?side2 A150.out).mono ?_); (case side1 => refine IsS66.now (wF := w) ?_; exact IsS66.go HI368.out); (case side2 => exact Ext.s4 GE367.out GE378.out GE380.out (IsS66.ge HI368.out) HB.out); rintro e w169 ⟨rfl, hi, hb⟩; refine ⟨_, rfl, ?_⟩; replace HB := Ext.a (hb); replace HI368 := Ext.a (IsS66.then (by exact IsS66.go HI368.out) hi); replace BK367 := Ext.a (IsS66.blk hi (by exact BK367.out) NB367_368.out (by decide)); replace BK378 := Ext.a (IsS66.blk hi (by exact BK378.out) NB378_368.out (by decide)); replace BK380 := Ext.a (IsS66.blk hi (by exact BK380.out) NB380_368.out (by decide)); (try clear hb hi); have hcz170 := Ext.cells18 BK367.out; have hfz170 := Ext.froz18 BK367.out) | ((with_reducible refine gate_callee (f := 29) rfl ?_); refine Ext.gs (some 158) rfl rfl Try.func29 #[.pointer (some ⟨gb368, 0, none⟩), .bool a0_9] rfl ?_; (with_reducible refine (terrierref20_out_flag.calls gb368 t403 t404 a0_9 t405 false w _ ?side1 ?side2 A151.out).mono ?_); (case side1 => refine IsS66.now (wF := w) ?_; exact IsS66.go HI368.out); (case side2 => exact Ext.s4 GE367.out GE378.out GE380.out (IsS66.ge HI368.out) HB.out); rintro e w171 ⟨rfl, hi, hb⟩; refine ⟨_, rfl, ?_⟩; replace HB := Ext.a (hb); replace HI368 := Ext.a (IsS66.then (by exact IsS66.go HI368.out) hi); replace BK367 := Ext.a (IsS66.blk hi (by exact BK367.out) NB367_368.out (by decide)); replace BK378 := Ext.a (IsS66.blk hi (by exact BK378.out) NB378_368.out (by decide)); replace BK380 := Ext.a (IsS66.blk hi (by exact BK380.out) NB380_368.out (by decide)); (try clear hb hi); obtain ⟨⟨vbz172, HGz172, hgz172, hoz172⟩, hfz172⟩ := HI368.out; have hcz172_1 := cellS66_1 HGz172; have hfz172_1 := blk_frozen HGz172 1; clear HGz172 hgz172 hoz172 hfz172; obtain ⟨⟨v407, HGz173, hgz173, hoz173⟩, hfz173⟩ := HI368.out; have hcz173_0 := (blk_cell HGz173 0).trans rfl; have hcz173_1 := cellS66_1 HGz173; have hfz173_0 := blk_frozen HGz173 0; have hfz173_1 := blk_frozen HGz173 1; have HO408 := Aside0.mk hoz173; have HX368 := Aside0.mk HGz173; have GE368 := Aside0.mk hgz173; have GW368 := GE368; have HF368 := Aside0.mk hfz173; clear HGz173 hgz173 hoz173 hfz173 HI368))
                   go_ret2
                   exact ⟨_, by first | rfl | (simp [errW_none, errW_some] <;> rfl) | (simp [*, errW_none, errW_some] <;> rfl), by exact Ext.nR HO408.out, by exact Ext.s4 GE367.out GE378.out GE380.out GE368.out HB.out⟩
                ·
                 replace c148 := Bool.eq_false_iff.mpr c148; subst c148; rw [if_neg Bool.false_ne_true] at H
                 by_cases c174 : x5_19 = 9
                 ·
                  rw [if_pos c174] at H; obtain ⟨c174b0, c174b1⟩ := Ext.eT c174; clear c174; replace H := Option.bind_eq_some_iff.mp H; obtain ⟨⟨t409, t410⟩, A1750, H⟩ := H; (try dsimp only at H); have A175 := Aside0.mk A1750; clear A1750; replace H := Option.bind_eq_some_iff.mp H; obtain ⟨⟨t411, t412⟩, A1760, H⟩ := H; (try dsimp only at H); have A176 := Aside0.mk A1760; clear A1760; replace H := Option.bind_eq_some_iff.mp H; obtain ⟨⟨t413, t414⟩, A1770, H⟩ := H; (try dsimp only at H); have A177 := Aside0.mk A1770; clear A1770; replace H := Option.bind_eq_some_iff.mp H; obtain ⟨⟨t415, t416⟩, A1780, H⟩ := H; (try dsimp only at H); have A178 := Aside0.mk A1780; clear A1780; have H' := Aside0.mk H; clear H; have hnb179 := NB367_378.out; have hnc179 := NB378_367.out; have hnb180 := NB367_380.out; have hnc180 := NB380_367.out; have hnb181 := NB367_368.out; have hnc181 := NB368_367.out; have hcz182 := Ext.cells18 BK367.out; have hfz182 := Ext.froz18 BK367.out
                  go_wp2_with (first | ((with_reducible refine gate_callee (f := 25) rfl ?_); refine Ext.gs (some 164) rfl rfl Try.func25 #[.pointer (some ⟨gb368, 0, none⟩), .int .i64 a0_11] rfl ?_; (with_reducible refine (terrierref20_out_num.calls kj145 gb368 t375 t376 a0_11 t409 t410 w _ ?side1 ?side2 A175.out).mono ?_); (case side1 => refine IsS66.now (wF := w) ?_; exact IsS66.go HI368.out); (case side2 => exact Ext.s4 GE367.out GE378.out GE380.out (IsS66.ge HI368.out) HB.out); rintro e w183 ⟨rfl, hi, hb⟩; refine ⟨_, rfl, ?_⟩; replace HB := Ext.a (hb); replace HI368 := Ext.a (IsS66.then (by exact IsS66.go HI368.out) hi); replace BK367 := Ext.a (IsS66.blk hi (by exact BK367.out) NB367_368.out (by decide)); replace BK378 := Ext.a (IsS66.blk hi (by exact BK378.out) NB378_368.out (by decide)); replace BK380 := Ext.a (IsS66.blk hi (by exact BK380.out) NB380_368.out (by decide)); (try clear hb hi); have hcz184 := Ext.cells18 BK367.out; have hfz184 := Ext.froz18 BK367.out) | ((with_reducible refine gate_callee (f := 25) rfl ?_); refine Ext.gs (some 168) rfl rfl Try.func25 #[.pointer (some ⟨gb368, 0, none⟩), .int .i64 a0_12] rfl ?_; (with_reducible refine (terrierref20_out_num.calls kj145 gb368 t409 t410 a0_12 t411 t412 w _ ?side1 ?side2 A176.out).mono ?_); (case side1 => refine IsS66.now (wF := w) ?_; exact IsS66.go HI368.out); (case side2 => exact Ext.s4 GE367.out GE378.out GE380.out (IsS66.ge HI368.out) HB.out); rintro e w185 ⟨rfl, hi, hb⟩; refine ⟨_, rfl, ?_⟩; replace HB := Ext.a (hb); replace HI368 := Ext.a (IsS66.then (by exact IsS66.go HI368.out) hi); replace BK367 := Ext.a (IsS66.blk hi (by exact BK367.out) NB367_368.out (by decide)); replace BK378 := Ext.a (IsS66.blk hi (by exact BK378.out) NB378_368.out (by decide)); replace BK380 := Ext.a (IsS66.blk hi (by exact BK380.out) NB380_368.out (by decide)); (try clear hb hi); have hcz186 := Ext.cells18 BK367.out; have hfz186 := Ext.froz18 BK367.out) | ((with_reducible refine gate_callee (f := 25) rfl ?_); refine Ext.gs (some 172) rfl rfl Try.func25 #[.pointer (some ⟨gb368, 0, none⟩), .int .i64 a0_13] rfl ?_; (with_reducible refine (terrierref20_out_num.calls kj145 gb368 t411 t412 a0_13 t413 t414 w _ ?side1 ?side2 A177.out).mono ?_); (case side1 => refine IsS66.now (wF := w) ?_; exact IsS66.go HI368.out); (case side2 => exact Ext.s4 GE367.out GE378.out GE380.out (IsS66.ge HI368.out) HB.out); rintro e w187 ⟨rfl, hi, hb⟩; refine ⟨_, rfl, ?_⟩; replace HB := Ext.a (hb); replace HI368 := Ext.a (IsS66.then (by exact IsS66.go HI368.out) hi); replace BK367 := Ext.a (IsS66.blk hi (by exact BK367.out) NB367_368.out (by decide)); replace BK378 := Ext.a (IsS66.blk hi (by exact BK378.out) NB378_368.out (by decide)); replace BK380 := Ext.a (IsS66.blk hi (by exact BK380.out) NB380_368.out (by decide)); (try clear hb hi); have hcz188 := Ext.cells18 BK367.out; have hfz188 := Ext.froz18 BK367.out) | ((with_reducible refine gate_callee (f := 30) rfl ?_); refine Ext.gs (some 177) rfl rfl Try.func30 #[.pointer (some ⟨gb368, 0, none⟩), .int .i64 (l0_15.length : Int)] rfl ?_; (with_reducible refine (terrierref20_out_count.calls gb368 t413 t414 (l0_15.length : Int) t415 t416 w _ ?side1 ?side2 A178.out).mono ?_); (case side1 => refine IsS66.now (wF := w) ?_; exact IsS66.go HI368.out); (case side2 => exact Ext.s4 GE367.out GE378.out GE380.out (IsS66.ge HI368.out) HB.out); rintro e w189 ⟨rfl, hi, hb⟩; refine ⟨_, rfl, ?_⟩; replace HB := Ext.a (hb); replace HI368 := Ext.a (IsS66.then (by exact IsS66.go HI368.out) hi); replace BK367 := Ext.a (IsS66.blk hi (by exact BK367.out) NB367_368.out (by decide)); replace BK378 := Ext.a (IsS66.blk hi (by exact BK378.out) NB378_368.out (by decide)); replace BK380 := Ext.a (IsS66.blk hi (by exact BK380.out) NB380_368.out (by decide)); (try clear hb hi); have hcz190 := Ext.cells18 BK367.out; have hfz190 := Ext.froz18 BK367.out))
                  go_loopg [181] kj145 (fun kq v181 w' => ∃ (x181_6 : Int) (x369000_6 : List Int) (x369001_6 : Bool), v181 = .int .i64 x181_6 ∧ Aside0 (terrierref20_Encode.l2 kq l0_15 (l0_15.length : Int) x181_6 x369000_6 x369001_6 = some (r1, r2)) ∧ Aside0 (kq ≤ kj145) ∧ Aside0 (w'.heap[gb367]? = some (.cells #[.int .i64 a0_0, .int .i64 a0_1, .int .i64 a0_2, .int .i64 a0_3, (.slice A0_4 l0_4.length c0_4), .int .i64 a0_5, .bool a0_6, (.slice A0_7 l0_7.length c0_7), .int .i64 a0_8, .bool a0_9, (.slice A0_10 l0_10.length c0_10), .int .i64 a0_11, .int .i64 a0_12, .int .i64 a0_13, (.slice A0_14 l0_14.length c0_14), (.slice A0_15 l0_15.length c0_15), .int .u32 a0_16, .int .i64 a0_17] 33 (0, 0))) ∧ Aside0 (w'.heap[gb378]? = some (.cells #[.bool t377.1, .bool t377.2.1, .bool t377.2.2.1, .bool t377.2.2.2.1, .bool t377.2.2.2.2.1, .bool t377.2.2.2.2.2.1, .bool t377.2.2.2.2.2.2.1, .bool t377.2.2.2.2.2.2.2.1, .bool t377.2.2.2.2.2.2.2.2] 69 (0, 0))) ∧ Aside0 (w'.heap[gb380]? = some (.cells #[.bool (!t379), .bool (decide (0 < l0_10.length)), .bool a0_9, .bool (a0_11 != 0), .bool (a0_12 != 0), .bool (a0_13 != 0), .bool (decide (0 < l0_15.length)), .bool (decide (0 < l0_14.length)), .bool (a0_16 != 0)] 69 (0, 0))) ∧ Aside0 (IsS66 w w w' gb368 x369000_6 x369001_6) ∧ Aside0 (Below w.heap.size w w'))
                  case atStart => exact ⟨(0), (t415), (t416), (by first | rfl | (simp; done) | (simp [*]; done)), H', ⟨Nat.le_refl _⟩, ⟨by exact BK367.out⟩, ⟨by exact BK378.out⟩, ⟨by exact BK380.out⟩, ⟨by exact IsS66.go HI368.out⟩, ⟨by exact Ext.s4 GE367.out GE378.out GE380.out (IsS66.ge HI368.out) HB.out⟩⟩
                  case round =>
                   clear H'; (try clear c15 c16 c17 c153 c154 c155 c163 c164 c165 c174b0 c174b1 c179 c180 c181 hcz156 hcz158 hcz160 hcz162_1 hcz166 hcz168 hcz170 hcz172_1 hcz173_0 hcz173_1 hcz182 hcz184 hcz186 hcz188 hcz190 hfz156 hfz158 hfz160 hfz162_1 hfz166 hfz168 hfz170 hfz172_1 hfz173_0 hfz173_1 hfz182 hfz184 hfz186 hfz188 hfz190); obtain ⟨x181_6, x369000_6, x369001_6, rfl, HA, HK6, BK367, BK378, BK380, HI368, HB⟩ := hrel; cases gk with
                   | zero => exact absurd HA.out (by simp [terrierref20_Encode.l2])
                   | succ k6 =>
                    have H := HA.out; clear HA; simp only [terrierref20_Encode.l2] at H
                    by_cases c191 : x181_6 < (l0_15.length : Int)
                    ·
                     rw [if_pos c191] at H; have c191b0 := decide_eq_true c191; clear c191
                     by_cases c192 : 0 ≤ x181_6
                     ·
                      rw [if_pos c192] at H; have c192b0 := decide_eq_true c192; clear c192
                      by_cases c193 : x181_6 < (l0_15.length : Int)
                      ·
                       rw [if_pos c193] at H; have c193b0 := decide_eq_true c193; clear c193; replace H := Option.bind_eq_some_iff.mp H; obtain ⟨⟨t418, t419⟩, A1940, H⟩ := H; (try dsimp only at H); have A194 := Aside0.mk A1940; clear A1940; have H' := Aside0.mk H; clear H; have p417 : 0 ≤ (x181_6 : Int) := of_decide_eq_true (by first | (with_reducible assumption) | assumption); have q417 : x181_6 < (l0_15.length : Int) := of_decide_eq_true (by first | (with_reducible assumption) | assumption); obtain ⟨ad417, A417_0, c417_0, e417, hx417_0, hl417_0, hi417_0⟩ := at_L1 HR0_15.out x181_6 p417 q417; cases e417; replace hx417_0 := (HB.out.cell (World.block_lt_of_cell? w _ hx417_0)).trans hx417_0; have HR417_0 := Aside0.mk hi417_0; have HC417_0 := Aside0.mk hl417_0; clear hi417_0 hl417_0; replace p417 := eq_true p417; replace q417 := eq_true q417
                       as_aux_lemma =>
                        go_wp2_with (first | ((with_reducible refine gate_callee (f := 31) rfl ?_); refine Ext.gs (some 187) rfl rfl Try.func31 #[.pointer (some ⟨gb368, 0, none⟩), .slice A417_0 (rd_L1 l0_15 x181_6).length c417_0] rfl ?_; (with_reducible refine (terrierref20_out_text.calls gb368 x369000_6 x369001_6 _ _ (rd_L1 l0_15 x181_6) t418 t419 w _ ?side1 ?side2 ?side3 ?side4 A194.out).mono ?_); (case side1 => refine IsS66.now (wF := w) ?_; exact IsS66.go HI368.out); (case side2 => exact Ext.s4 GE367.out GE378.out GE380.out (IsS66.ge HI368.out) HB.out); (case side3 => exact HR417_0.out); (case side4 => exact HC417_0.out); rintro e w195 ⟨rfl, hi, hb⟩; refine ⟨_, rfl, ?_⟩; replace HB := Ext.a (hb); replace HI368 := Ext.a (IsS66.then (by exact IsS66.go HI368.out) hi); replace BK367 := Ext.a (IsS66.blk hi (by exact BK367.out) NB367_368.out (by decide)); replace BK378 := Ext.a (IsS66.blk hi (by exact BK378.out) NB378_368.out (by decide)); replace BK380 := Ext.a (IsS66.blk hi (by exact BK380.out) NB380_368.out (by decide)); (try clear hb hi)))
                        go_roundg k6
                        case measure => have := HJ5.out; have := HJ19.out; have := HK3.out; have := HJ68.out; have := HJ145.out; have := HK6.out; omega
                        case rel => exact ⟨(wrap64 (x181_6 + 1)), (t418), (t419), (by first | rfl | (simp; done) | (simp [*]; done)), H', ⟨by have := HJ5.out; have := HJ19.out; have := HK3.out; have := HJ68.out; have := HJ145.out; have := HK6.out; omega⟩, ⟨by exact BK367.out⟩, ⟨by exact BK378.out⟩, ⟨by exact BK380.out⟩, ⟨by exact IsS66.go HI368.out⟩, ⟨by exact Ext.s4 GE367.out GE378.out GE380.out (IsS66.ge HI368.out) HB.out⟩⟩
                      · rw [if_neg c193] at H; exact absurd H (by simp)
                     · rw [if_neg c192] at H; exact absurd H (by simp)
                    ·
                     rw [if_neg c191] at H; have c191b0 := decide_eq_false c191; clear c191
                     by_cases c196 : x369001_6 = true
                     ·
                      subst c196; rw [if_pos rfl] at H; simp only [Option.some.injEq, Prod.mk.injEq] at H; obtain ⟨rfl, rfl⟩ := H; obtain ⟨⟨vbz197, HGz197, hgz197, hoz197⟩, hfz197⟩ := HI368.out; have hcz197_1 := cellS66_1 HGz197; have hfz197_1 := blk_frozen HGz197 1; clear HGz197 hgz197 hoz197 hfz197
                      as_aux_lemma =>
                       go_wp2
                       go_ret2
                       exact ⟨_, by first | rfl | (simp [errW_none, errW_some] <;> rfl) | (simp [*, errW_none, errW_some] <;> rfl), by first | exact Ext.nl | exact Kd.R_nil _ _ _ _ _, by exact Ext.s4 GE367.out GE378.out GE380.out (IsS66.ge HI368.out) HB.out⟩
                     ·
                      replace c196 := Bool.eq_false_iff.mpr c196; subst c196; rw [if_neg Bool.false_ne_true] at H; simp only [Option.some.injEq, Prod.mk.injEq] at H; obtain ⟨rfl, rfl⟩ := H; obtain ⟨⟨vbz198, HGz198, hgz198, hoz198⟩, hfz198⟩ := HI368.out; have hcz198_1 := cellS66_1 HGz198; have hfz198_1 := blk_frozen HGz198 1; clear HGz198 hgz198 hoz198 hfz198; obtain ⟨⟨v420, HGz199, hgz199, hoz199⟩, hfz199⟩ := HI368.out; have hcz199_0 := (blk_cell HGz199 0).trans rfl; have hcz199_1 := cellS66_1 HGz199; have hfz199_0 := blk_frozen HGz199 0; have hfz199_1 := blk_frozen HGz199 1; have HO421 := Aside0.mk hoz199; have HX368 := Aside0.mk HGz199; have GE368 := Aside0.mk hgz199; have GW368 := GE368; have HF368 := Aside0.mk hfz199; clear HGz199 hgz199 hoz199 hfz199 HI368
                      as_aux_lemma =>
                       go_wp2
                       go_ret2
                       exact ⟨_, by first | rfl | (simp [errW_none, errW_some] <;> rfl) | (simp [*, errW_none, errW_some] <;> rfl), by exact Ext.nR HO421.out, by exact Ext.s4 GE367.out GE378.out GE380.out GE368.out HB.out⟩
                 ·
                  rw [if_neg c174] at H; obtain ⟨c174b0, c174b1⟩ := Ext.eF c174
                  by_cases c200 : x5_19 = 10
                  ·
                   rw [if_pos c200] at H; obtain ⟨c200b0, c200b1⟩ := Ext.eT c200; clear c200; replace H := Option.bind_eq_some_iff.mp H; obtain ⟨⟨t422, t423⟩, A2010, H⟩ := H; (try dsimp only at H); have A201 := Aside0.mk A2010; clear A2010; have H' := Aside0.mk H; clear H; have hnb202 := NB367_378.out; have hnc202 := NB378_367.out; have hnb203 := NB367_380.out; have hnc203 := NB380_367.out; have hnb204 := NB367_368.out; have hnc204 := NB368_367.out; have hcz205 := Ext.cells18 BK367.out; have hfz205 := Ext.froz18 BK367.out
                   go_wp2_with (first | ((with_reducible refine gate_callee (f := 30) rfl ?_); refine Ext.gs (some 195) rfl rfl Try.func30 #[.pointer (some ⟨gb368, 0, none⟩), .int .i64 (l0_14.length : Int)] rfl ?_; (with_reducible refine (terrierref20_out_count.calls gb368 t375 t376 (l0_14.length : Int) t422 t423 w _ ?side1 ?side2 A201.out).mono ?_); (case side1 => refine IsS66.now (wF := w) ?_; exact IsS66.go HI368.out); (case side2 => exact Ext.s4 GE367.out GE378.out GE380.out (IsS66.ge HI368.out) HB.out); rintro e w206 ⟨rfl, hi, hb⟩; refine ⟨_, rfl, ?_⟩; replace HB := Ext.a (hb); replace HI368 := Ext.a (IsS66.then (by exact IsS66.go HI368.out) hi); replace BK367 := Ext.a (IsS66.blk hi (by exact BK367.out) NB367_368.out (by decide)); replace BK378 := Ext.a (IsS66.blk hi (by exact BK378.out) NB378_368.out (by decide)); replace BK380 := Ext.a (IsS66.blk hi (by exact BK380.out) NB380_368.out (by decide)); (try clear hb hi); have hcz207 := Ext.cells18 BK367.out; have hfz207 := Ext.froz18 BK367.out))
                   go_loopg [199] kj145 (fun kq v199 w' => ∃ (x199_6 : Int) (x369000_6 : List Int) (x369001_6 : Bool), v199 = .int .i64 x199_6 ∧ Aside0 (terrierref20_Encode.l3 kq l0_14 (l0_14.length : Int) x199_6 x369000_6 x369001_6 = some (r1, r2)) ∧ Aside0 (kq ≤ kj145) ∧ Aside0 (w'.heap[gb367]? = some (.cells #[.int .i64 a0_0, .int .i64 a0_1, .int .i64 a0_2, .int .i64 a0_3, (.slice A0_4 l0_4.length c0_4), .int .i64 a0_5, .bool a0_6, (.slice A0_7 l0_7.length c0_7), .int .i64 a0_8, .bool a0_9, (.slice A0_10 l0_10.length c0_10), .int .i64 a0_11, .int .i64 a0_12, .int .i64 a0_13, (.slice A0_14 l0_14.length c0_14), (.slice A0_15 l0_15.length c0_15), .int .u32 a0_16, .int .i64 a0_17] 33 (0, 0))) ∧ Aside0 (w'.heap[gb378]? = some (.cells #[.bool t377.1, .bool t377.2.1, .bool t377.2.2.1, .bool t377.2.2.2.1, .bool t377.2.2.2.2.1, .bool t377.2.2.2.2.2.1, .bool t377.2.2.2.2.2.2.1, .bool t377.2.2.2.2.2.2.2.1, .bool t377.2.2.2.2.2.2.2.2] 69 (0, 0))) ∧ Aside0 (w'.heap[gb380]? = some (.cells #[.bool (!t379), .bool (decide (0 < l0_10.length)), .bool a0_9, .bool (a0_11 != 0), .bool (a0_12 != 0), .bool (a0_13 != 0), .bool (decide (0 < l0_15.length)), .bool (decide (0 < l0_14.length)), .bool (a0_16 != 0)] 69 (0, 0))) ∧ Aside0 (IsS66 w w w' gb368 x369000_6 x369001_6) ∧ Aside0 (Below w.heap.size w w'))
                   case atStart => exact ⟨(0), (t422), (t423), (by first | rfl | (simp; done) | (simp [*]; done)), H', ⟨Nat.le_refl _⟩, ⟨by exact BK367.out⟩, ⟨by exact BK378.out⟩, ⟨by exact BK380.out⟩, ⟨by exact IsS66.go HI368.out⟩, ⟨by exact Ext.s4 GE367.out GE378.out GE380.out (IsS66.ge HI368.out) HB.out⟩⟩
                   case round =>
                    clear H'; (try clear p4 q4 hx4 c20 c31 c41 p41 q41 hx41 c174b0 c174b1 c191b0 c192b0 c193b0 c200b0 c200b1 c202 c203 c204 hcz197_1 hcz198_1 hcz199_0 hcz199_1 hcz205 hcz207 hfz197_1 hfz198_1 hfz199_0 hfz199_1 hfz205 hfz207 hx417_0 p417 q417); obtain ⟨x199_6, x369000_6, x369001_6, rfl, HA, HK6, BK367, BK378, BK380, HI368, HB⟩ := hrel; cases gk with
                    | zero => exact absurd HA.out (by simp [terrierref20_Encode.l3])
                    | succ k6 =>
                     have H := HA.out; clear HA; simp only [terrierref20_Encode.l3] at H
                     by_cases c208 : x199_6 < (l0_14.length : Int)
                     ·
                      rw [if_pos c208] at H; have c208b0 := decide_eq_true c208; clear c208
                      by_cases c209 : 0 ≤ x199_6
                      ·
                       rw [if_pos c209] at H; have c209b0 := decide_eq_true c209; clear c209
                       by_cases c210 : x199_6 < (l0_14.length : Int)
                       ·
                        rw [if_pos c210] at H; have c210b0 := decide_eq_true c210; clear c210; replace H := Option.bind_eq_some_iff.mp H; obtain ⟨⟨t425, t426⟩, A2110, H⟩ := H; (try dsimp only at H); have A211 := Aside0.mk A2110; clear A2110; have H' := Aside0.mk H; clear H; have p424 : 0 ≤ (x199_6 : Int) := of_decide_eq_true (by first | (with_reducible assumption) | assumption); have q424 : x199_6 < (l0_14.length : Int) := of_decide_eq_true (by first | (with_reducible assumption) | assumption); obtain ⟨ad424, e424, hx424_0⟩ := Kd.at_int HR0_14.out x199_6 p424 q424; cases e424; replace hx424_0 := (HB.out.cell (World.block_lt_of_cell? w _ hx424_0)).trans hx424_0; replace p424 := eq_true p424; replace q424 := eq_true q424
                        as_aux_lemma =>
                         go_wp2_with (first | ((with_reducible refine gate_callee (f := 25) rfl ?_); refine Ext.gs (some 205) rfl rfl Try.func25 #[.pointer (some ⟨gb368, 0, none⟩), .int .i64 (rd l0_14 x199_6)] rfl ?_; (with_reducible refine (terrierref20_out_num.calls k6 gb368 x369000_6 x369001_6 (rd l0_14 x199_6) t425 t426 w _ ?side1 ?side2 A211.out).mono ?_); (case side1 => refine IsS66.now (wF := w) ?_; exact IsS66.go HI368.out); (case side2 => exact Ext.s4 GE367.out GE378.out GE380.out (IsS66.ge HI368.out) HB.out); rintro e w212 ⟨rfl, hi, hb⟩; refine ⟨_, rfl, ?_⟩; replace HB := Ext.a (hb); replace HI368 := Ext.a (IsS66.then (by exact IsS66.go HI368.out) hi); replace BK367 := Ext.a (IsS66.blk hi (by exact BK367.out) NB367_368.out (by decide)); replace BK378 := Ext.a (IsS66.blk hi (by exact BK378.out) NB378_368.out (by decide)); replace BK380 := Ext.a (IsS66.blk hi (by exact BK380.out) NB380_368.out (by decide)); (try clear hb hi)))
                         go_roundg k6
                         case measure => have := HJ5.out; have := HJ19.out; have := HK3.out; have := HJ68.out; have := HJ145.out; have := HK6.out; omega
                         case rel => exact ⟨(wrap64 (x199_6 + 1)), (t425), (t426), (by first | rfl | (simp; done) | (simp [*]; done)), H', ⟨by have := HJ5.out; have := HJ19.out; have := HK3.out; have := HJ68.out; have := HJ145.out; have := HK6.out; omega⟩, ⟨by exact BK367.out⟩, ⟨by exact BK378.out⟩, ⟨by exact BK380.out⟩, ⟨by exact IsS66.go HI368.out⟩, ⟨by exact Ext.s4 GE367.out GE378.out GE380.out (IsS66.ge HI368.out) HB.out⟩⟩
                       · rw [if_neg c210] at H; exact absurd H (by simp)
                      · rw [if_neg c209] at H; exact absurd H (by simp)
                     ·
                      rw [if_neg c208] at H; have c208b0 := decide_eq_false c208; clear c208
                      by_cases c213 : x369001_6 = true
                      ·
                       subst c213; rw [if_pos rfl] at H; simp only [Option.some.injEq, Prod.mk.injEq] at H; obtain ⟨rfl, rfl⟩ := H; obtain ⟨⟨vbz214, HGz214, hgz214, hoz214⟩, hfz214⟩ := HI368.out; have hcz214_1 := cellS66_1 HGz214; have hfz214_1 := blk_frozen HGz214 1; clear HGz214 hgz214 hoz214 hfz214
                       as_aux_lemma =>
                        go_wp2
                        go_ret2
                        exact ⟨_, by first | rfl | (simp [errW_none, errW_some] <;> rfl) | (simp [*, errW_none, errW_some] <;> rfl), by first | exact Ext.nl | exact Kd.R_nil _ _ _ _ _, by exact Ext.s4 GE367.out GE378.out GE380.out (IsS66.ge HI368.out) HB.out⟩
                      ·
                       replace c213 := Bool.eq_false_iff.mpr c213; subst c213; rw [if_neg Bool.false_ne_true] at H; simp only [Option.some.injEq, Prod.mk.injEq] at H; obtain ⟨rfl, rfl⟩ := H; obtain ⟨⟨vbz215, HGz215, hgz215, hoz215⟩, hfz215⟩ := HI368.out; have hcz215_1 := cellS66_1 HGz215; have hfz215_1 := blk_frozen HGz215 1; clear HGz215 hgz215 hoz215 hfz215; obtain ⟨⟨v427, HGz216, hgz216, hoz216⟩, hfz216⟩ := HI368.out; have hcz216_0 := (blk_cell HGz216 0).trans rfl; have hcz216_1 := cellS66_1 HGz216; have hfz216_0 := blk_frozen HGz216 0; have hfz216_1 := blk_frozen HGz216 1; have HO428 := Aside0.mk hoz216; have HX368 := Aside0.mk HGz216; have GE368 := Aside0.mk hgz216; have GW368 := GE368; have HF368 := Aside0.mk hfz216; clear HGz216 hgz216 hoz216 hfz216 HI368
                       as_aux_lemma =>
                        go_wp2
                        go_ret2
                        exact ⟨_, by first | rfl | (simp [errW_none, errW_some] <;> rfl) | (simp [*, errW_none, errW_some] <;> rfl), by exact Ext.nR HO428.out, by exact Ext.s4 GE367.out GE378.out GE380.out GE368.out HB.out⟩
                  ·
                   rw [if_neg c200] at H; obtain ⟨c200b0, c200b1⟩ := Ext.eF c200
                   by_cases c217 : x5_19 = 11
                   ·
                    rw [if_pos c217] at H; obtain ⟨c217b0, c217b1⟩ := Ext.eT c217; clear c217; replace H := Option.bind_eq_some_iff.mp H; obtain ⟨⟨t429, t430⟩, A2180, H⟩ := H; (try dsimp only at H); have A218 := Aside0.mk A2180; clear A2180
                    by_cases c219 : t430 = true
                    ·
                     subst c219; rw [if_pos rfl] at H; simp only [Option.some.injEq, Prod.mk.injEq] at H; obtain ⟨rfl, rfl⟩ := H; have hnb220 := NB367_378.out; have hnc220 := NB378_367.out; have hnb221 := NB367_380.out; have hnc221 := NB380_367.out; have hnb222 := NB367_368.out; have hnc222 := NB368_367.out; have hcz223 := Ext.cells18 BK367.out; have hfz223 := Ext.froz18 BK367.out
                     as_aux_lemma =>
                      go_wp2_with (first | ((with_reducible refine gate_callee (f := 25) rfl ?_); refine Ext.gs (some 212) rfl rfl Try.func25 #[.pointer (some ⟨gb368, 0, none⟩), .int .i64 a0_11] rfl ?_; (with_reducible refine (terrierref20_out_num.calls kj145 gb368 t375 t376 a0_11 t429 true w _ ?side1 ?side2 A218.out).mono ?_); (case side1 => refine IsS66.now (wF := w) ?_; exact IsS66.go HI368.out); (case side2 => exact Ext.s4 GE367.out GE378.out GE380.out (IsS66.ge HI368.out) HB.out); rintro e w224 ⟨rfl, hi, hb⟩; refine ⟨_, rfl, ?_⟩; replace HB := Ext.a (hb); replace HI368 := Ext.a (IsS66.then (by exact IsS66.go HI368.out) hi); replace BK367 := Ext.a (IsS66.blk hi (by exact BK367.out) NB367_368.out (by decide)); replace BK378 := Ext.a (IsS66.blk hi (by exact BK378.out) NB378_368.out (by decide)); replace BK380 := Ext.a (IsS66.blk hi (by exact BK380.out) NB380_368.out (by decide)); (try clear hb hi); obtain ⟨⟨vbz225, HGz225, hgz225, hoz225⟩, hfz225⟩ := HI368.out; have hcz225_1 := cellS66_1 HGz225; have hfz225_1 := blk_frozen HGz225 1; clear HGz225 hgz225 hoz225 hfz225))
                      go_ret2
                      exact ⟨_, by first | rfl | (simp [errW_none, errW_some] <;> rfl) | (simp [*, errW_none, errW_some] <;> rfl), by first | exact Ext.nl | exact Kd.R_nil _ _ _ _ _, by exact Ext.s4 GE367.out GE378.out GE380.out (IsS66.ge HI368.out) HB.out⟩
                    ·
                     replace c219 := Bool.eq_false_iff.mpr c219; subst c219; rw [if_neg Bool.false_ne_true] at H; simp only [Option.some.injEq, Prod.mk.injEq] at H; obtain ⟨rfl, rfl⟩ := H; have hnb226 := NB367_378.out; have hnc226 := NB378_367.out; have hnb227 := NB367_380.out; have hnc227 := NB380_367.out; have hnb228 := NB367_368.out; have hnc228 := NB368_367.out; have hcz229 := Ext.cells18 BK367.out; have hfz229 := Ext.froz18 BK367.out
                     as_aux_lemma =>
                      go_wp2_with (first | ((with_reducible refine gate_callee (f := 25) rfl ?_); refine Ext.gs (some 212) rfl rfl Try.func25 #[.pointer (some ⟨gb368, 0, none⟩), .int .i64 a0_11] rfl ?_; (with_reducible refine (terrierref20_out_num.calls kj145 gb368 t375 t376 a0_11 t429 false w _ ?side1 ?side2 A218.out).mono ?_); (case side1 => refine IsS66.now (wF := w) ?_; exact IsS66.go HI368.out); (case side2 => exact Ext.s4 GE367.out GE378.out GE380.out (IsS66.ge HI368.out) HB.out); rintro e w230 ⟨rfl, hi, hb⟩; refine ⟨_, rfl, ?_⟩; replace HB := Ext.a (hb); replace HI368 := Ext.a (IsS66.then (by exact IsS66.go HI368.out) hi); replace BK367 := Ext.a (IsS66.blk hi (by exact BK367.out) NB367_368.out (by decide)); replace BK378 := Ext.a (IsS66.blk hi (by exact BK378.out) NB378_368.out (by decide)); replace BK380 := Ext.a (IsS66.blk hi (by exact BK380.out) NB380_368.out (by decide)); (try clear hb hi); obtain ⟨⟨vbz231, HGz231, hgz231, hoz231⟩, hfz231⟩ := HI368.out; have hcz231_1 := cellS66_1 HGz231; have hfz231_1 := blk_frozen HGz231 1; clear HGz231 hgz231 hoz231 hfz231; obtain ⟨⟨v431, HGz232, hgz232, hoz232⟩, hfz232⟩ := HI368.out; have hcz232_0 := (blk_cell HGz232 0).trans rfl; have hcz232_1 := cellS66_1 HGz232; have hfz232_0 := blk_frozen HGz232 0; have hfz232_1 := blk_frozen HGz232 1; have HO432 := Aside0.mk hoz232; have HX368 := Aside0.mk HGz232; have GE368 := Aside0.mk hgz232; have GW368 := GE368; have HF368 := Aside0.mk hfz232; clear HGz232 hgz232 hoz232 hfz232 HI368))
                      go_ret2
                      exact ⟨_, by first | rfl | (simp [errW_none, errW_some] <;> rfl) | (simp [*, errW_none, errW_some] <;> rfl), by exact Ext.nR HO432.out, by exact Ext.s4 GE367.out GE378.out GE380.out GE368.out HB.out⟩
                   ·
                    rw [if_neg c217] at H; obtain ⟨c217b0, c217b1⟩ := Ext.eF c217
                    by_cases c233 : x5_19 = 14
                    ·
                     rw [if_pos c233] at H; obtain ⟨c233b0, c233b1⟩ := Ext.eT c233; clear c233; replace H := Option.bind_eq_some_iff.mp H; obtain ⟨t433, A2340, H⟩ := H; (try dsimp only at H); have A234 := Aside0.mk A2340; clear A2340; replace H := Option.bind_eq_some_iff.mp H; obtain ⟨⟨t436, t437⟩, A2350, H⟩ := H; (try dsimp only at H); have A235 := Aside0.mk A2350; clear A2350
                     by_cases c236 : t437 = true
                     ·
                      subst c236; rw [if_pos rfl] at H; simp only [Option.some.injEq, Prod.mk.injEq] at H; obtain ⟨rfl, rfl⟩ := H; have hnb237 := NB367_378.out; have hnc237 := NB378_367.out; have hnb238 := NB367_380.out; have hnc238 := NB380_367.out; have hnb239 := NB367_368.out; have hnc239 := NB368_367.out; have hcz240 := Ext.cells18 BK367.out; have hfz240 := Ext.froz18 BK367.out
                      as_aux_lemma =>
                       go_wp2_with (first | ((with_reducible refine gate_callee (f := 33) rfl ?_); refine Ext.gs (some 219) rfl rfl Try.func33 #[.int .u64 (IntKind.u64.wrap (a0_16)), .int .i64 4] rfl ?_; (with_reducible refine (terrierref01_Put.calls kj145 (IntKind.u64.wrap (a0_16)) 4 t433 _ A234.out).mono ?_); rintro e w241 ⟨v434, rfl, ho0, hb⟩; refine ⟨_, rfl, ?_⟩; have HO435 := Ext.a (Kd.R_lower ho0 (below_size (Ext.s4 GE367.out GE378.out GE380.out (IsS66.ge HI368.out) HB.out))); replace HB := Ext.a (below_step (Ext.s4 GE367.out GE378.out GE380.out (IsS66.ge HI368.out) HB.out) hb); replace HI368 := Ext.a (IsS66.below (by exact IsS66.go HI368.out) hb); replace BK367 := Ext.a (blk_below BK367.out hb); replace BK378 := Ext.a (blk_below BK378.out hb); replace BK380 := Ext.a (blk_below BK380.out hb); (try clear hb ho0); obtain ⟨Ao242, co242, eo242⟩ := Kd.R_slice HO435.out; subst eo242) | ((with_reducible refine gate_callee (f := 32) rfl ?_); refine Ext.gs (some 220) rfl rfl Try.func32 #[.pointer (some ⟨gb368, 0, none⟩), .slice Ao242 t433.length co242] rfl ?_; (with_reducible refine (terrierref20_out_add.calls gb368 t375 t376 _ _ t433 t436 true w _ ?side1 ?side2 ?side3 ?side4 A235.out).mono ?_); (case side1 => refine IsS66.now (wF := w) ?_; exact IsS66.go HI368.out); (case side2 => exact Ext.s4 GE367.out GE378.out GE380.out (IsS66.ge HI368.out) HB.out); (case side3 => exact Ext.nC (Kd.R_reads' HO435.out).2.2); (case side4 => exact (Kd.R_reads' HO435.out).2.1); rintro e w243 ⟨rfl, hi, hb⟩; refine ⟨_, rfl, ?_⟩; replace HB := Ext.a (hb); replace HI368 := Ext.a (IsS66.then (by exact IsS66.go HI368.out) hi); replace BK367 := Ext.a (IsS66.blk hi (by exact BK367.out) NB367_368.out (by decide)); replace BK378 := Ext.a (IsS66.blk hi (by exact BK378.out) NB378_368.out (by decide)); replace BK380 := Ext.a (IsS66.blk hi (by exact BK380.out) NB380_368.out (by decide)); clear HO435; (try clear hb hi); obtain ⟨⟨vbz244, HGz244, hgz244, hoz244⟩, hfz244⟩ := HI368.out; have hcz244_1 := cellS66_1 HGz244; have hfz244_1 := blk_frozen HGz244 1; clear HGz244 hgz244 hoz244 hfz244))
                       go_ret2
                       exact ⟨_, by first | rfl | (simp [errW_none, errW_some] <;> rfl) | (simp [*, errW_none, errW_some] <;> rfl), by first | exact Ext.nl | exact Kd.R_nil _ _ _ _ _, by exact Ext.s4 GE367.out GE378.out GE380.out (IsS66.ge HI368.out) HB.out⟩
                     ·
                      replace c236 := Bool.eq_false_iff.mpr c236; subst c236; rw [if_neg Bool.false_ne_true] at H; simp only [Option.some.injEq, Prod.mk.injEq] at H; obtain ⟨rfl, rfl⟩ := H; have hnb245 := NB367_378.out; have hnc245 := NB378_367.out; have hnb246 := NB367_380.out; have hnc246 := NB380_367.out; have hnb247 := NB367_368.out; have hnc247 := NB368_367.out; have hcz248 := Ext.cells18 BK367.out; have hfz248 := Ext.froz18 BK367.out
                      as_aux_lemma =>
                       go_wp2_with (first | ((with_reducible refine gate_callee (f := 33) rfl ?_); refine Ext.gs (some 219) rfl rfl Try.func33 #[.int .u64 (IntKind.u64.wrap (a0_16)), .int .i64 4] rfl ?_; (with_reducible refine (terrierref01_Put.calls kj145 (IntKind.u64.wrap (a0_16)) 4 t433 _ A234.out).mono ?_); rintro e w249 ⟨v434, rfl, ho0, hb⟩; refine ⟨_, rfl, ?_⟩; have HO435 := Ext.a (Kd.R_lower ho0 (below_size (Ext.s4 GE367.out GE378.out GE380.out (IsS66.ge HI368.out) HB.out))); replace HB := Ext.a (below_step (Ext.s4 GE367.out GE378.out GE380.out (IsS66.ge HI368.out) HB.out) hb); replace HI368 := Ext.a (IsS66.below (by exact IsS66.go HI368.out) hb); replace BK367 := Ext.a (blk_below BK367.out hb); replace BK378 := Ext.a (blk_below BK378.out hb); replace BK380 := Ext.a (blk_below BK380.out hb); (try clear hb ho0); obtain ⟨Ao250, co250, eo250⟩ := Kd.R_slice HO435.out; subst eo250) | ((with_reducible refine gate_callee (f := 32) rfl ?_); refine Ext.gs (some 220) rfl rfl Try.func32 #[.pointer (some ⟨gb368, 0, none⟩), .slice Ao250 t433.length co250] rfl ?_; (with_reducible refine (terrierref20_out_add.calls gb368 t375 t376 _ _ t433 t436 false w _ ?side1 ?side2 ?side3 ?side4 A235.out).mono ?_); (case side1 => refine IsS66.now (wF := w) ?_; exact IsS66.go HI368.out); (case side2 => exact Ext.s4 GE367.out GE378.out GE380.out (IsS66.ge HI368.out) HB.out); (case side3 => exact Ext.nC (Kd.R_reads' HO435.out).2.2); (case side4 => exact (Kd.R_reads' HO435.out).2.1); rintro e w251 ⟨rfl, hi, hb⟩; refine ⟨_, rfl, ?_⟩; replace HB := Ext.a (hb); replace HI368 := Ext.a (IsS66.then (by exact IsS66.go HI368.out) hi); replace BK367 := Ext.a (IsS66.blk hi (by exact BK367.out) NB367_368.out (by decide)); replace BK378 := Ext.a (IsS66.blk hi (by exact BK378.out) NB378_368.out (by decide)); replace BK380 := Ext.a (IsS66.blk hi (by exact BK380.out) NB380_368.out (by decide)); clear HO435; (try clear hb hi); obtain ⟨⟨vbz252, HGz252, hgz252, hoz252⟩, hfz252⟩ := HI368.out; have hcz252_1 := cellS66_1 HGz252; have hfz252_1 := blk_frozen HGz252 1; clear HGz252 hgz252 hoz252 hfz252; obtain ⟨⟨v438, HGz253, hgz253, hoz253⟩, hfz253⟩ := HI368.out; have hcz253_0 := (blk_cell HGz253 0).trans rfl; have hcz253_1 := cellS66_1 HGz253; have hfz253_0 := blk_frozen HGz253 0; have hfz253_1 := blk_frozen HGz253 1; have HO439 := Aside0.mk hoz253; have HX368 := Aside0.mk HGz253; have GE368 := Aside0.mk hgz253; have GW368 := GE368; have HF368 := Aside0.mk hfz253; clear HGz253 hgz253 hoz253 hfz253 HI368))
                       go_ret2
                       exact ⟨_, by first | rfl | (simp [errW_none, errW_some] <;> rfl) | (simp [*, errW_none, errW_some] <;> rfl), by exact Ext.nR HO439.out, by exact Ext.s4 GE367.out GE378.out GE380.out GE368.out HB.out⟩
                    ·
                     rw [if_neg c233] at H; obtain ⟨c233b0, c233b1⟩ := Ext.eF c233
                     by_cases c254 : x5_19 = 15
                     ·
                      rw [if_pos c254] at H; obtain ⟨c254b0, c254b1⟩ := Ext.eT c254; clear c254; replace H := Option.bind_eq_some_iff.mp H; obtain ⟨⟨t440, t441⟩, A2550, H⟩ := H; (try dsimp only at H); have A255 := Aside0.mk A2550; clear A2550; replace H := Option.bind_eq_some_iff.mp H; obtain ⟨⟨t442, t443⟩, A2560, H⟩ := H; (try dsimp only at H); have A256 := Aside0.mk A2560; clear A2560
                      by_cases c257 : t443 = true
                      ·
                       subst c257; rw [if_pos rfl] at H; simp only [Option.some.injEq, Prod.mk.injEq] at H; obtain ⟨rfl, rfl⟩ := H; have hnb258 := NB367_378.out; have hnc258 := NB378_367.out; have hnb259 := NB367_380.out; have hnc259 := NB380_367.out; have hnb260 := NB367_368.out; have hnc260 := NB368_367.out; have hcz261 := Ext.cells18 BK367.out; have hfz261 := Ext.froz18 BK367.out
                       as_aux_lemma =>
                        go_wp2_with (first | ((with_reducible refine gate_callee (f := 25) rfl ?_); refine Ext.gs (some 226) rfl rfl Try.func25 #[.pointer (some ⟨gb368, 0, none⟩), .int .i64 a0_12] rfl ?_; (with_reducible refine (terrierref20_out_num.calls kj145 gb368 t375 t376 a0_12 t440 t441 w _ ?side1 ?side2 A255.out).mono ?_); (case side1 => refine IsS66.now (wF := w) ?_; exact IsS66.go HI368.out); (case side2 => exact Ext.s4 GE367.out GE378.out GE380.out (IsS66.ge HI368.out) HB.out); rintro e w262 ⟨rfl, hi, hb⟩; refine ⟨_, rfl, ?_⟩; replace HB := Ext.a (hb); replace HI368 := Ext.a (IsS66.then (by exact IsS66.go HI368.out) hi); replace BK367 := Ext.a (IsS66.blk hi (by exact BK367.out) NB367_368.out (by decide)); replace BK378 := Ext.a (IsS66.blk hi (by exact BK378.out) NB378_368.out (by decide)); replace BK380 := Ext.a (IsS66.blk hi (by exact BK380.out) NB380_368.out (by decide)); (try clear hb hi); have hcz263 := Ext.cells18 BK367.out; have hfz263 := Ext.froz18 BK367.out) | ((with_reducible refine gate_callee (f := 25) rfl ?_); refine Ext.gs (some 230) rfl rfl Try.func25 #[.pointer (some ⟨gb368, 0, none⟩), .int .i64 a0_13] rfl ?_; (with_reducible refine (terrierref20_out_num.calls kj145 gb368 t440 t441 a0_13 t442 true w _ ?side1 ?side2 A256.out).mono ?_); (case side1 => refine IsS66.now (wF := w) ?_; exact IsS66.go HI368.out); (case side2 => exact Ext.s4 GE367.out GE378.out GE380.out (IsS66.ge HI368.out) HB.out); rintro e w264 ⟨rfl, hi, hb⟩; refine ⟨_, rfl, ?_⟩; replace HB := Ext.a (hb); replace HI368 := Ext.a (IsS66.then (by exact IsS66.go HI368.out) hi); replace BK367 := Ext.a (IsS66.blk hi (by exact BK367.out) NB367_368.out (by decide)); replace BK378 := Ext.a (IsS66.blk hi (by exact BK378.out) NB378_368.out (by decide)); replace BK380 := Ext.a (IsS66.blk hi (by exact BK380.out) NB380_368.out (by decide)); (try clear hb hi); obtain ⟨⟨vbz265, HGz265, hgz265, hoz265⟩, hfz265⟩ := HI368.out; have hcz265_1 := cellS66_1 HGz265; have hfz265_1 := blk_frozen HGz265 1; clear HGz265 hgz265 hoz265 hfz265))
                        go_ret2
                        exact ⟨_, by first | rfl | (simp [errW_none, errW_some] <;> rfl) | (simp [*, errW_none, errW_some] <;> rfl), by first | exact Ext.nl | exact Kd.R_nil _ _ _ _ _, by exact Ext.s4 GE367.out GE378.out GE380.out (IsS66.ge HI368.out) HB.out⟩
                      ·
                       replace c257 := Bool.eq_false_iff.mpr c257; subst c257; rw [if_neg Bool.false_ne_true] at H; simp only [Option.some.injEq, Prod.mk.injEq] at H; obtain ⟨rfl, rfl⟩ := H; have hnb266 := NB367_378.out; have hnc266 := NB378_367.out; have hnb267 := NB367_380.out; have hnc267 := NB380_367.out; have hnb268 := NB367_368.out; have hnc268 := NB368_367.out; have hcz269 := Ext.cells18 BK367.out; have hfz269 := Ext.froz18 BK367.out
                       as_aux_lemma =>
                        go_wp2_with (first | ((with_reducible refine gate_callee (f := 25) rfl ?_); refine Ext.gs (some 226) rfl rfl Try.func25 #[.pointer (some ⟨gb368, 0, none⟩), .int .i64 a0_12] rfl ?_; (with_reducible refine (terrierref20_out_num.calls kj145 gb368 t375 t376 a0_12 t440 t441 w _ ?side1 ?side2 A255.out).mono ?_); (case side1 => refine IsS66.now (wF := w) ?_; exact IsS66.go HI368.out); (case side2 => exact Ext.s4 GE367.out GE378.out GE380.out (IsS66.ge HI368.out) HB.out); rintro e w270 ⟨rfl, hi, hb⟩; refine ⟨_, rfl, ?_⟩; replace HB := Ext.a (hb); replace HI368 := Ext.a (IsS66.then (by exact IsS66.go HI368.out) hi); replace BK367 := Ext.a (IsS66.blk hi (by exact BK367.out) NB367_368.out (by decide)); replace BK378 := Ext.a (IsS66.blk hi (by exact BK378.out) NB378_368.out (by decide)); replace BK380 := Ext.a (IsS66.blk hi (by exact BK380.out) NB380_368.out (by decide)); (try clear hb hi); have hcz271 := Ext.cells18 BK367.out; have hfz271 := Ext.froz18 BK367.out) | ((with_reducible refine gate_callee (f := 25) rfl ?_); refine Ext.gs (some 230) rfl rfl Try.func25 #[.pointer (some ⟨gb368, 0, none⟩), .int .i64 a0_13] rfl ?_; (with_reducible refine (terrierref20_out_num.calls kj145 gb368 t440 t441 a0_13 t442 false w _ ?side1 ?side2 A256.out).mono ?_); (case side1 => refine IsS66.now (wF := w) ?_; exact IsS66.go HI368.out); (case side2 => exact Ext.s4 GE367.out GE378.out GE380.out (IsS66.ge HI368.out) HB.out); rintro e w272 ⟨rfl, hi, hb⟩; refine ⟨_, rfl, ?_⟩; replace HB := Ext.a (hb); replace HI368 := Ext.a (IsS66.then (by exact IsS66.go HI368.out) hi); replace BK367 := Ext.a (IsS66.blk hi (by exact BK367.out) NB367_368.out (by decide)); replace BK378 := Ext.a (IsS66.blk hi (by exact BK378.out) NB378_368.out (by decide)); replace BK380 := Ext.a (IsS66.blk hi (by exact BK380.out) NB380_368.out (by decide)); (try clear hb hi); obtain ⟨⟨vbz273, HGz273, hgz273, hoz273⟩, hfz273⟩ := HI368.out; have hcz273_1 := cellS66_1 HGz273; have hfz273_1 := blk_frozen HGz273 1; clear HGz273 hgz273 hoz273 hfz273; obtain ⟨⟨v444, HGz274, hgz274, hoz274⟩, hfz274⟩ := HI368.out; have hcz274_0 := (blk_cell HGz274 0).trans rfl; have hcz274_1 := cellS66_1 HGz274; have hfz274_0 := blk_frozen HGz274 0; have hfz274_1 := blk_frozen HGz274 1; have HO445 := Aside0.mk hoz274; have HX368 := Aside0.mk HGz274; have GE368 := Aside0.mk hgz274; have GW368 := GE368; have HF368 := Aside0.mk hfz274; clear HGz274 hgz274 hoz274 hfz274 HI368))
                        go_ret2
                        exact ⟨_, by first | rfl | (simp [errW_none, errW_some] <;> rfl) | (simp [*, errW_none, errW_some] <;> rfl), by exact Ext.nR HO445.out, by exact Ext.s4 GE367.out GE378.out GE380.out GE368.out HB.out⟩
                     ·
                      rw [if_neg c254] at H; obtain ⟨c254b0, c254b1⟩ := Ext.eF c254
                      by_cases c275 : t376 = true
                      ·
                       subst c275; rw [if_pos rfl] at H; simp only [Option.some.injEq, Prod.mk.injEq] at H; obtain ⟨rfl, rfl⟩ := H; obtain ⟨⟨vbz276, HGz276, hgz276, hoz276⟩, hfz276⟩ := HI368.out; have hcz276_1 := cellS66_1 HGz276; have hfz276_1 := blk_frozen HGz276 1; clear HGz276 hgz276 hoz276 hfz276
                       as_aux_lemma =>
                        go_wp2
                        go_ret2
                        exact ⟨_, by first | rfl | (simp [errW_none, errW_some] <;> rfl) | (simp [*, errW_none, errW_some] <;> rfl), by first | exact Ext.nl | exact Kd.R_nil _ _ _ _ _, by exact Ext.s4 GE367.out GE378.out GE380.out (IsS66.ge HI368.out) HB.out⟩
                      ·
                       replace c275 := Bool.eq_false_iff.mpr c275; subst c275; rw [if_neg Bool.false_ne_true] at H; simp only [Option.some.injEq, Prod.mk.injEq] at H; obtain ⟨rfl, rfl⟩ := H; obtain ⟨⟨vbz277, HGz277, hgz277, hoz277⟩, hfz277⟩ := HI368.out; have hcz277_1 := cellS66_1 HGz277; have hfz277_1 := blk_frozen HGz277 1; clear HGz277 hgz277 hoz277 hfz277; obtain ⟨⟨v446, HGz278, hgz278, hoz278⟩, hfz278⟩ := HI368.out; have hcz278_0 := (blk_cell HGz278 0).trans rfl; have hcz278_1 := cellS66_1 HGz278; have hfz278_0 := blk_frozen HGz278 0; have hfz278_1 := blk_frozen HGz278 1; have HO447 := Aside0.mk hoz278; have HX368 := Aside0.mk HGz278; have GE368 := Aside0.mk hgz278; have GW368 := GE368; have HF368 := Aside0.mk hfz278; clear HGz278 hgz278 hoz278 hfz278 HI368
                       as_aux_lemma =>
                        go_wp2
                        go_ret2
                        exact ⟨_, by first | rfl | (simp [errW_none, errW_some] <;> rfl) | (simp [*, errW_none, errW_some] <;> rfl), by exact Ext.nR HO447.out, by exact Ext.s4 GE367.out GE378.out GE380.out GE368.out HB.out⟩
 
end Go.Proofs.Ytlhjdmpclfhoeaa.PC
