-- Written by wip/printx.py, a program of this work over the kit's print, for this claim.
import Derived.Test.YtlhjdmpclfhoeaaPCx0
import Derived.Test.YtlhjdmpclfhoeaaPCx1
import Derived.Test.YtlhjdmpclfhoeaaPCx2
import Derived.Test.YtlhjdmpclfhoeaaPCx3
import Derived.Test.YtlhjdmpclfhoeaaPCx4
namespace Go.Proofs.Ytlhjdmpclfhoeaa.PC
open Go.RowKit Go.Proofs.YtlhjdmpclfhoeaaW.PrintWords Go.Proofs.YtlhjdmpclfhoeaaW.PrintLast Go.Proofs.YtlhjdmpclfhoeaaW.PrintMore
attribute [local go_sem] max2_int min2_int max_two min_two max_three min_three max_four min_four   -- for this text's walks alone
attribute [local go_sem] Ext.pick_u8 Ext.pick_u32 Ext.pick_u64
set_option linter.unusedVariables false
set_option linter.unusedSimpArgs false



/-! ### reply_writer_reply: function 22 -/
mutual
def reply_writer_reply.j0 : Nat → List Int → Bool → Int → Int → Int → Int → List (S79) → Int → Bool → List (S79) → Int → Bool → List (S27) → Int → Int → Int → List Int → List (List Int) → Int → Int → Option (List Int × Bool)
 | 0, _, _, _, _, _, _, _, _, _, _, _, _, _, _, _, _, _, _, _, _ => none
 | k + 1, x1000, x1001, x186000, x186001, x186002, x186003, x186004, x186005, x186006, x186007, x186008, x186009, x186010, x186011, x186012, x186013, x186014, x186015, x186016, x186017 => if x186001 = 0 then (if x186000 = 1 then (reply_writer_reply.j1 k x186000 (x186000 == 1) x1000 x1001 x186000 x186001 x186002 x186003 x186004 x186005 x186006 x186007 x186008 x186009 x186010 x186011 x186012 x186013 x186014 x186015 x186016 x186017) else (if x186000 = 2 then (reply_writer_reply.j1 k x186000 (x186000 == 2) x1000 x1001 x186000 x186001 x186002 x186003 x186004 x186005 x186006 x186007 x186008 x186009 x186010 x186011 x186012 x186013 x186014 x186015 x186016 x186017) else (reply_writer_reply.j1 k x186000 (x186000 == 3) x1000 x1001 x186000 x186001 x186002 x186003 x186004 x186005 x186006 x186007 x186008 x186009 x186010 x186011 x186012 x186013 x186014 x186015 x186016 x186017))) else (some (x1000, x1001))
def reply_writer_reply.j1 : Nat → Int → Bool → List Int → Bool → Int → Int → Int → Int → List (S79) → Int → Bool → List (S79) → Int → Bool → List (S27) → Int → Int → Int → List Int → List (List Int) → Int → Int → Option (List Int × Bool)
 | 0, _, _, _, _, _, _, _, _, _, _, _, _, _, _, _, _, _, _, _, _, _, _ => none
 | k + 1, x47, x48, x1000, x1001, x186000, x186001, x186002, x186003, x186004, x186005, x186006, x186007, x186008, x186009, x186010, x186011, x186012, x186013, x186014, x186015, x186016, x186017 => if x48 = true then (if x1001 = true then ((reply_writer_told.f k x1000 true x186003 x186004 x186005 x186006 x186007 x186008).bind fun bt194 => (some (bt194.1, bt194.2))) else ((reply_writer_told.f k x1000 (x186003 != x186000) x186003 x186004 x186005 x186006 x186007 x186008).bind fun bt196 => (some (bt196.1, bt196.2)))) else (if x47 = 4 then ((reply_writer_flag.f x1000 x1001 x186009).bind fun bt198 => ((reply_writer_count.f k bt198.1 bt198.2 (x186010.length : Int)).bind fun bt200 => (if bt200.1 = true then (reply_writer_reply.l0 k x186010 (x186010.length : Int) 0 bt200.2.1 bt200.2.2) else (some (bt200.2.1, bt200.2.2))))) else (if x47 = 6 then ((reply_writer_num.f k x1000 x1001 x186011).bind fun bt207 => ((reply_writer_num.f k bt207.1 bt207.2 x186012).bind fun bt209 => (some (bt209.1, bt209.2)))) else (if x47 = 8 then (reply_writer_reply.j3 k x47 (x47 == 8) x1000 x1001 x186000 x186001 x186002 x186003 x186004 x186005 x186006 x186007 x186008 x186009 x186010 x186011 x186012 x186013 x186014 x186015 x186016 x186017) else (reply_writer_reply.j3 k x47 (x47 == 13) x1000 x1001 x186000 x186001 x186002 x186003 x186004 x186005 x186006 x186007 x186008 x186009 x186010 x186011 x186012 x186013 x186014 x186015 x186016 x186017))))
def reply_writer_reply.l0 : Nat → List (S27) → Int → Int → List Int → Bool → Option (List Int × Bool)
 | 0, _, _, _, _, _ => none
 | k + 1, x83, x84, x85, x1000, x1001 => if x85 < x84 then (if 0 ≤ x85 then (if x85 < (x83.length : Int) then ((reply_writer_told.f k x1000 x1001 ((rd_T27 x83 x85).f0) ((rd_T27 x83 x85).f1.f0) ((rd_T27 x83 x85).f1.f1) ((rd_T27 x83 x85).f1.f2) ((rd_T27 x83 x85).f2) ((rd_T27 x83 x85).f3)).bind fun bt205 => (reply_writer_reply.l0 k x83 x84 (wrap64 (x85 + 1)) bt205.1 bt205.2)) else (none)) else (none)) else (some (x1000, x1001))
def reply_writer_reply.j3 : Nat → Int → Bool → List Int → Bool → Int → Int → Int → Int → List (S79) → Int → Bool → List (S79) → Int → Bool → List (S27) → Int → Int → Int → List Int → List (List Int) → Int → Int → Option (List Int × Bool)
 | 0, _, _, _, _, _, _, _, _, _, _, _, _, _, _, _, _, _, _, _, _, _, _ => none
 | k + 1, x47, x103, x1000, x1001, x186000, x186001, x186002, x186003, x186004, x186005, x186006, x186007, x186008, x186009, x186010, x186011, x186012, x186013, x186014, x186015, x186016, x186017 => if x103 = true then ((reply_writer_num.f k x1000 x1001 x186011).bind fun bt211 => ((reply_writer_num.f k bt211.1 bt211.2 x186012).bind fun bt213 => ((reply_writer_flag.f bt213.1 bt213.2 x186009).bind fun bt215 => (some (bt215.1, bt215.2))))) else (if x47 = 9 then ((reply_writer_num.f k x1000 x1001 x186011).bind fun bt217 => ((reply_writer_num.f k bt217.1 bt217.2 x186012).bind fun bt219 => ((reply_writer_num.f k bt219.1 bt219.2 x186013).bind fun bt221 => ((reply_writer_count.f k bt221.1 bt221.2 (x186015.length : Int)).bind fun bt223 => (if bt223.1 = true then (reply_writer_reply.l1 k x186015 (x186015.length : Int) 0 bt223.2.1 bt223.2.2) else (some (bt223.2.1, bt223.2.2))))))) else (if x47 = 10 then ((reply_writer_count.f k x1000 x1001 (x186014.length : Int)).bind fun bt229 => (if bt229.1 = true then (reply_writer_reply.l2 k x186014 (x186014.length : Int) 0 bt229.2.1 bt229.2.2) else (some (bt229.2.1, bt229.2.2)))) else (if x47 = 11 then ((reply_writer_num.f k x1000 x1001 x186011).bind fun bt235 => (some (bt235.1, bt235.2))) else (if x47 = 14 then ((reply_writer_put.f k x1000 x1001 (IntKind.u64.wrap (x186016)) 4).bind fun bt237 => (some (bt237.1, bt237.2))) else (if x47 = 15 then ((reply_writer_num.f k x1000 x1001 x186012).bind fun bt239 => ((reply_writer_num.f k bt239.1 bt239.2 x186013).bind fun bt241 => (some (bt241.1, bt241.2)))) else (some (x1000, x1001)))))))
def reply_writer_reply.l1 : Nat → List (List Int) → Int → Int → List Int → Bool → Option (List Int × Bool)
 | 0, _, _, _, _, _ => none
 | k + 1, x138, x139, x140, x1000, x1001 => if x140 < x139 then (if 0 ≤ x140 then (if x140 < (x138.length : Int) then ((reply_writer_text.f k x1000 x1001 (rd_L1 x138 x140)).bind fun bt227 => (reply_writer_reply.l1 k x138 x139 (wrap64 (x140 + 1)) bt227.1 bt227.2)) else (none)) else (none)) else (some (x1000, x1001))
def reply_writer_reply.l2 : Nat → List Int → Int → Int → List Int → Bool → Option (List Int × Bool)
 | 0, _, _, _, _, _ => none
 | k + 1, x156, x157, x158, x1000, x1001 => if x158 < x157 then (if 0 ≤ x158 then (if x158 < (x156.length : Int) then ((reply_writer_num.f k x1000 x1001 (rd x156 x158)).bind fun bt233 => (reply_writer_reply.l2 k x156 x157 (wrap64 (x158 + 1)) bt233.1 bt233.2)) else (none)) else (none)) else (some (x1000, x1001))
end
def reply_writer_reply.f (k : Nat) (s0_0 : List Int) (s0_1 : Bool) (a1_0 : Int) (a1_1 : Int) (a1_2 : Int) (a1_3 : Int) (l1_4 : List (S79)) (a1_5 : Int) (a1_6 : Bool) (l1_7 : List (S79)) (a1_8 : Int) (a1_9 : Bool) (l1_10 : List (S27)) (a1_11 : Int) (a1_12 : Int) (a1_13 : Int) (l1_14 : List Int) (l1_15 : List (List Int)) (a1_16 : Int) (a1_17 : Int) : Option (List Int × Bool) := (reply_writer_small.f s0_0 s0_1 a1_0).bind fun bt186 => ((reply_writer_small.f bt186.1 bt186.2 a1_1).bind fun bt188 => ((reply_writer_num.f k bt188.1 bt188.2 a1_2).bind fun bt190 => ((reply_writer_num.f k bt190.1 bt190.2 a1_17).bind fun bt192 => (if bt192.2 = true then (reply_writer_reply.j0 k bt192.1 true a1_0 a1_1 a1_2 a1_3 l1_4 a1_5 a1_6 l1_7 a1_8 a1_9 l1_10 a1_11 a1_12 a1_13 l1_14 l1_15 a1_16 a1_17) else (if a1_0 < 0 then (reply_writer_reply.j0 k bt192.1 true a1_0 a1_1 a1_2 a1_3 l1_4 a1_5 a1_6 l1_7 a1_8 a1_9 l1_10 a1_11 a1_12 a1_13 l1_14 l1_15 a1_16 a1_17) else (reply_writer_reply.j0 k bt192.1 (decide (a1_0 > 17)) a1_0 a1_1 a1_2 a1_3 l1_4 a1_5 a1_6 l1_7 a1_8 a1_9 l1_10 a1_11 a1_12 a1_13 l1_14 l1_15 a1_16 a1_17))))))
theorem reply_writer_reply.mono_l : ∀ k, (∀ y0 y1 y2 y3 y4 y5 y6 y7 y8 y9 y10 y11 y12 y13 y14 y15 y16 y17 y18 y19, LeO (reply_writer_reply.j0 k y0 y1 y2 y3 y4 y5 y6 y7 y8 y9 y10 y11 y12 y13 y14 y15 y16 y17 y18 y19) (reply_writer_reply.j0 (k + 1) y0 y1 y2 y3 y4 y5 y6 y7 y8 y9 y10 y11 y12 y13 y14 y15 y16 y17 y18 y19)) ∧ (∀ y0 y1 y2 y3 y4 y5 y6 y7 y8 y9 y10 y11 y12 y13 y14 y15 y16 y17 y18 y19 y20 y21, LeO (reply_writer_reply.j1 k y0 y1 y2 y3 y4 y5 y6 y7 y8 y9 y10 y11 y12 y13 y14 y15 y16 y17 y18 y19 y20 y21) (reply_writer_reply.j1 (k + 1) y0 y1 y2 y3 y4 y5 y6 y7 y8 y9 y10 y11 y12 y13 y14 y15 y16 y17 y18 y19 y20 y21)) ∧ (∀ y0 y1 y2 y3 y4, LeO (reply_writer_reply.l0 k y0 y1 y2 y3 y4) (reply_writer_reply.l0 (k + 1) y0 y1 y2 y3 y4)) ∧ (∀ y0 y1 y2 y3 y4 y5 y6 y7 y8 y9 y10 y11 y12 y13 y14 y15 y16 y17 y18 y19 y20 y21, LeO (reply_writer_reply.j3 k y0 y1 y2 y3 y4 y5 y6 y7 y8 y9 y10 y11 y12 y13 y14 y15 y16 y17 y18 y19 y20 y21) (reply_writer_reply.j3 (k + 1) y0 y1 y2 y3 y4 y5 y6 y7 y8 y9 y10 y11 y12 y13 y14 y15 y16 y17 y18 y19 y20 y21)) ∧ (∀ y0 y1 y2 y3 y4, LeO (reply_writer_reply.l1 k y0 y1 y2 y3 y4) (reply_writer_reply.l1 (k + 1) y0 y1 y2 y3 y4)) ∧ (∀ y0 y1 y2 y3 y4, LeO (reply_writer_reply.l2 k y0 y1 y2 y3 y4) (reply_writer_reply.l2 (k + 1) y0 y1 y2 y3 y4))
 | 0 => ⟨fun _ _ _ _ _ _ _ _ _ _ _ _ _ _ _ _ _ _ _ _ r h => by simp [reply_writer_reply.j0] at h, fun _ _ _ _ _ _ _ _ _ _ _ _ _ _ _ _ _ _ _ _ _ _ r h => by simp [reply_writer_reply.j1] at h, fun _ _ _ _ _ r h => by simp [reply_writer_reply.l0] at h, fun _ _ _ _ _ _ _ _ _ _ _ _ _ _ _ _ _ _ _ _ _ _ r h => by simp [reply_writer_reply.j3] at h, fun _ _ _ _ _ r h => by simp [reply_writer_reply.l1] at h, fun _ _ _ _ _ r h => by simp [reply_writer_reply.l2] at h⟩
 | k + 1 => by
  obtain ⟨ih0, ih1, ih2, ih3, ih4, ih5⟩ := reply_writer_reply.mono_l k; refine ⟨?_, ?_, ?_, ?_, ?_, ?_⟩
  ·
   intro y0 y1 y2 y3 y4 y5 y6 y7 y8 y9 y10 y11 y12 y13 y14 y15 y16 y17 y18 y19
   unfold reply_writer_reply.j0
   repeat' first
   | (with_reducible exact ih0 _ _ _ _ _ _ _ _ _ _ _ _ _ _ _ _ _ _ _ _)
   | (with_reducible exact ih1 _ _ _ _ _ _ _ _ _ _ _ _ _ _ _ _ _ _ _ _ _ _)
   | (with_reducible exact ih2 _ _ _ _ _)
   | (with_reducible exact ih3 _ _ _ _ _ _ _ _ _ _ _ _ _ _ _ _ _ _ _ _ _ _)
   | (with_reducible exact ih4 _ _ _ _ _)
   | (with_reducible exact ih5 _ _ _ _ _)
   | (with_reducible exact reply_writer_count.mono _ _ _ _)
   | (with_reducible exact reply_writer_num.mono _ _ _ _)
   | (with_reducible exact reply_writer_put.mono _ _ _ _ _)
   | (with_reducible exact reply_writer_text.mono _ _ _ _)
   | (with_reducible exact reply_writer_told.mono _ _ _ _ _ _ _ _ _)
   | (with_reducible exact LeO.refl _)
   | (with_reducible exact LeO.none _)
   | (with_reducible refine LeO.ite ?_ ?_)
   | (with_reducible refine LeO.bind ?_ (fun _ => ?_))
   | exact ih0 _ _ _ _ _ _ _ _ _ _ _ _ _ _ _ _ _ _ _ _
   | exact ih1 _ _ _ _ _ _ _ _ _ _ _ _ _ _ _ _ _ _ _ _ _ _
   | exact ih2 _ _ _ _ _
   | exact ih3 _ _ _ _ _ _ _ _ _ _ _ _ _ _ _ _ _ _ _ _ _ _
   | exact ih4 _ _ _ _ _
   | exact ih5 _ _ _ _ _
   | exact reply_writer_count.mono _ _ _ _
   | exact reply_writer_num.mono _ _ _ _
   | exact reply_writer_put.mono _ _ _ _ _
   | exact reply_writer_text.mono _ _ _ _
   | exact reply_writer_told.mono _ _ _ _ _ _ _ _ _
   | exact LeO.none _
   | refine LeO.ite ?_ ?_
   | refine LeO.bind ?_ (fun _ => ?_)
  ·
   intro y0 y1 y2 y3 y4 y5 y6 y7 y8 y9 y10 y11 y12 y13 y14 y15 y16 y17 y18 y19 y20 y21
   unfold reply_writer_reply.j1
   repeat' first
   | (with_reducible exact ih0 _ _ _ _ _ _ _ _ _ _ _ _ _ _ _ _ _ _ _ _)
   | (with_reducible exact ih1 _ _ _ _ _ _ _ _ _ _ _ _ _ _ _ _ _ _ _ _ _ _)
   | (with_reducible exact ih2 _ _ _ _ _)
   | (with_reducible exact ih3 _ _ _ _ _ _ _ _ _ _ _ _ _ _ _ _ _ _ _ _ _ _)
   | (with_reducible exact ih4 _ _ _ _ _)
   | (with_reducible exact ih5 _ _ _ _ _)
   | (with_reducible exact reply_writer_count.mono _ _ _ _)
   | (with_reducible exact reply_writer_num.mono _ _ _ _)
   | (with_reducible exact reply_writer_put.mono _ _ _ _ _)
   | (with_reducible exact reply_writer_text.mono _ _ _ _)
   | (with_reducible exact reply_writer_told.mono _ _ _ _ _ _ _ _ _)
   | (with_reducible exact LeO.refl _)
   | (with_reducible exact LeO.none _)
   | (with_reducible refine LeO.ite ?_ ?_)
   | (with_reducible refine LeO.bind ?_ (fun _ => ?_))
   | exact ih0 _ _ _ _ _ _ _ _ _ _ _ _ _ _ _ _ _ _ _ _
   | exact ih1 _ _ _ _ _ _ _ _ _ _ _ _ _ _ _ _ _ _ _ _ _ _
   | exact ih2 _ _ _ _ _
   | exact ih3 _ _ _ _ _ _ _ _ _ _ _ _ _ _ _ _ _ _ _ _ _ _
   | exact ih4 _ _ _ _ _
   | exact ih5 _ _ _ _ _
   | exact reply_writer_count.mono _ _ _ _
   | exact reply_writer_num.mono _ _ _ _
   | exact reply_writer_put.mono _ _ _ _ _
   | exact reply_writer_text.mono _ _ _ _
   | exact reply_writer_told.mono _ _ _ _ _ _ _ _ _
   | exact LeO.none _
   | refine LeO.ite ?_ ?_
   | refine LeO.bind ?_ (fun _ => ?_)
  ·
   intro y0 y1 y2 y3 y4
   unfold reply_writer_reply.l0
   repeat' first
   | (with_reducible exact ih0 _ _ _ _ _ _ _ _ _ _ _ _ _ _ _ _ _ _ _ _)
   | (with_reducible exact ih1 _ _ _ _ _ _ _ _ _ _ _ _ _ _ _ _ _ _ _ _ _ _)
   | (with_reducible exact ih2 _ _ _ _ _)
   | (with_reducible exact ih3 _ _ _ _ _ _ _ _ _ _ _ _ _ _ _ _ _ _ _ _ _ _)
   | (with_reducible exact ih4 _ _ _ _ _)
   | (with_reducible exact ih5 _ _ _ _ _)
   | (with_reducible exact reply_writer_count.mono _ _ _ _)
   | (with_reducible exact reply_writer_num.mono _ _ _ _)
   | (with_reducible exact reply_writer_put.mono _ _ _ _ _)
   | (with_reducible exact reply_writer_text.mono _ _ _ _)
   | (with_reducible exact reply_writer_told.mono _ _ _ _ _ _ _ _ _)
   | (with_reducible exact LeO.refl _)
   | (with_reducible exact LeO.none _)
   | (with_reducible refine LeO.ite ?_ ?_)
   | (with_reducible refine LeO.bind ?_ (fun _ => ?_))
   | exact ih0 _ _ _ _ _ _ _ _ _ _ _ _ _ _ _ _ _ _ _ _
   | exact ih1 _ _ _ _ _ _ _ _ _ _ _ _ _ _ _ _ _ _ _ _ _ _
   | exact ih2 _ _ _ _ _
   | exact ih3 _ _ _ _ _ _ _ _ _ _ _ _ _ _ _ _ _ _ _ _ _ _
   | exact ih4 _ _ _ _ _
   | exact ih5 _ _ _ _ _
   | exact reply_writer_count.mono _ _ _ _
   | exact reply_writer_num.mono _ _ _ _
   | exact reply_writer_put.mono _ _ _ _ _
   | exact reply_writer_text.mono _ _ _ _
   | exact reply_writer_told.mono _ _ _ _ _ _ _ _ _
   | exact LeO.none _
   | refine LeO.ite ?_ ?_
   | refine LeO.bind ?_ (fun _ => ?_)
  ·
   intro y0 y1 y2 y3 y4 y5 y6 y7 y8 y9 y10 y11 y12 y13 y14 y15 y16 y17 y18 y19 y20 y21
   unfold reply_writer_reply.j3
   repeat' first
   | (with_reducible exact ih0 _ _ _ _ _ _ _ _ _ _ _ _ _ _ _ _ _ _ _ _)
   | (with_reducible exact ih1 _ _ _ _ _ _ _ _ _ _ _ _ _ _ _ _ _ _ _ _ _ _)
   | (with_reducible exact ih2 _ _ _ _ _)
   | (with_reducible exact ih3 _ _ _ _ _ _ _ _ _ _ _ _ _ _ _ _ _ _ _ _ _ _)
   | (with_reducible exact ih4 _ _ _ _ _)
   | (with_reducible exact ih5 _ _ _ _ _)
   | (with_reducible exact reply_writer_count.mono _ _ _ _)
   | (with_reducible exact reply_writer_num.mono _ _ _ _)
   | (with_reducible exact reply_writer_put.mono _ _ _ _ _)
   | (with_reducible exact reply_writer_text.mono _ _ _ _)
   | (with_reducible exact reply_writer_told.mono _ _ _ _ _ _ _ _ _)
   | (with_reducible exact LeO.refl _)
   | (with_reducible exact LeO.none _)
   | (with_reducible refine LeO.ite ?_ ?_)
   | (with_reducible refine LeO.bind ?_ (fun _ => ?_))
   | exact ih0 _ _ _ _ _ _ _ _ _ _ _ _ _ _ _ _ _ _ _ _
   | exact ih1 _ _ _ _ _ _ _ _ _ _ _ _ _ _ _ _ _ _ _ _ _ _
   | exact ih2 _ _ _ _ _
   | exact ih3 _ _ _ _ _ _ _ _ _ _ _ _ _ _ _ _ _ _ _ _ _ _
   | exact ih4 _ _ _ _ _
   | exact ih5 _ _ _ _ _
   | exact reply_writer_count.mono _ _ _ _
   | exact reply_writer_num.mono _ _ _ _
   | exact reply_writer_put.mono _ _ _ _ _
   | exact reply_writer_text.mono _ _ _ _
   | exact reply_writer_told.mono _ _ _ _ _ _ _ _ _
   | exact LeO.none _
   | refine LeO.ite ?_ ?_
   | refine LeO.bind ?_ (fun _ => ?_)
  ·
   intro y0 y1 y2 y3 y4
   unfold reply_writer_reply.l1
   repeat' first
   | (with_reducible exact ih0 _ _ _ _ _ _ _ _ _ _ _ _ _ _ _ _ _ _ _ _)
   | (with_reducible exact ih1 _ _ _ _ _ _ _ _ _ _ _ _ _ _ _ _ _ _ _ _ _ _)
   | (with_reducible exact ih2 _ _ _ _ _)
   | (with_reducible exact ih3 _ _ _ _ _ _ _ _ _ _ _ _ _ _ _ _ _ _ _ _ _ _)
   | (with_reducible exact ih4 _ _ _ _ _)
   | (with_reducible exact ih5 _ _ _ _ _)
   | (with_reducible exact reply_writer_count.mono _ _ _ _)
   | (with_reducible exact reply_writer_num.mono _ _ _ _)
   | (with_reducible exact reply_writer_put.mono _ _ _ _ _)
   | (with_reducible exact reply_writer_text.mono _ _ _ _)
   | (with_reducible exact reply_writer_told.mono _ _ _ _ _ _ _ _ _)
   | (with_reducible exact LeO.refl _)
   | (with_reducible exact LeO.none _)
   | (with_reducible refine LeO.ite ?_ ?_)
   | (with_reducible refine LeO.bind ?_ (fun _ => ?_))
   | exact ih0 _ _ _ _ _ _ _ _ _ _ _ _ _ _ _ _ _ _ _ _
   | exact ih1 _ _ _ _ _ _ _ _ _ _ _ _ _ _ _ _ _ _ _ _ _ _
   | exact ih2 _ _ _ _ _
   | exact ih3 _ _ _ _ _ _ _ _ _ _ _ _ _ _ _ _ _ _ _ _ _ _
   | exact ih4 _ _ _ _ _
   | exact ih5 _ _ _ _ _
   | exact reply_writer_count.mono _ _ _ _
   | exact reply_writer_num.mono _ _ _ _
   | exact reply_writer_put.mono _ _ _ _ _
   | exact reply_writer_text.mono _ _ _ _
   | exact reply_writer_told.mono _ _ _ _ _ _ _ _ _
   | exact LeO.none _
   | refine LeO.ite ?_ ?_
   | refine LeO.bind ?_ (fun _ => ?_)
  ·
   intro y0 y1 y2 y3 y4
   unfold reply_writer_reply.l2
   repeat' first
   | (with_reducible exact ih0 _ _ _ _ _ _ _ _ _ _ _ _ _ _ _ _ _ _ _ _)
   | (with_reducible exact ih1 _ _ _ _ _ _ _ _ _ _ _ _ _ _ _ _ _ _ _ _ _ _)
   | (with_reducible exact ih2 _ _ _ _ _)
   | (with_reducible exact ih3 _ _ _ _ _ _ _ _ _ _ _ _ _ _ _ _ _ _ _ _ _ _)
   | (with_reducible exact ih4 _ _ _ _ _)
   | (with_reducible exact ih5 _ _ _ _ _)
   | (with_reducible exact reply_writer_count.mono _ _ _ _)
   | (with_reducible exact reply_writer_num.mono _ _ _ _)
   | (with_reducible exact reply_writer_put.mono _ _ _ _ _)
   | (with_reducible exact reply_writer_text.mono _ _ _ _)
   | (with_reducible exact reply_writer_told.mono _ _ _ _ _ _ _ _ _)
   | (with_reducible exact LeO.refl _)
   | (with_reducible exact LeO.none _)
   | (with_reducible refine LeO.ite ?_ ?_)
   | (with_reducible refine LeO.bind ?_ (fun _ => ?_))
   | exact ih0 _ _ _ _ _ _ _ _ _ _ _ _ _ _ _ _ _ _ _ _
   | exact ih1 _ _ _ _ _ _ _ _ _ _ _ _ _ _ _ _ _ _ _ _ _ _
   | exact ih2 _ _ _ _ _
   | exact ih3 _ _ _ _ _ _ _ _ _ _ _ _ _ _ _ _ _ _ _ _ _ _
   | exact ih4 _ _ _ _ _
   | exact ih5 _ _ _ _ _
   | exact reply_writer_count.mono _ _ _ _
   | exact reply_writer_num.mono _ _ _ _
   | exact reply_writer_put.mono _ _ _ _ _
   | exact reply_writer_text.mono _ _ _ _
   | exact reply_writer_told.mono _ _ _ _ _ _ _ _ _
   | exact LeO.none _
   | refine LeO.ite ?_ ?_
   | refine LeO.bind ?_ (fun _ => ?_)
theorem reply_writer_reply.mono : ∀ a0 a1 a2 a3 a4 a5 a6 a7 a8 a9 a10 a11 a12 a13 a14 a15 a16 a17 a18 a19 k, LeO (reply_writer_reply.f k a0 a1 a2 a3 a4 a5 a6 a7 a8 a9 a10 a11 a12 a13 a14 a15 a16 a17 a18 a19) (reply_writer_reply.f (k + 1) a0 a1 a2 a3 a4 a5 a6 a7 a8 a9 a10 a11 a12 a13 a14 a15 a16 a17 a18 a19) := by
 intro a0 a1 a2 a3 a4 a5 a6 a7 a8 a9 a10 a11 a12 a13 a14 a15 a16 a17 a18 a19 k
 obtain ⟨ih0, ih1, ih2, ih3, ih4, ih5⟩ := reply_writer_reply.mono_l k; unfold reply_writer_reply.f
 repeat' first
   | (with_reducible exact ih0 _ _ _ _ _ _ _ _ _ _ _ _ _ _ _ _ _ _ _ _)
   | (with_reducible exact ih1 _ _ _ _ _ _ _ _ _ _ _ _ _ _ _ _ _ _ _ _ _ _)
   | (with_reducible exact ih2 _ _ _ _ _)
   | (with_reducible exact ih3 _ _ _ _ _ _ _ _ _ _ _ _ _ _ _ _ _ _ _ _ _ _)
   | (with_reducible exact ih4 _ _ _ _ _)
   | (with_reducible exact ih5 _ _ _ _ _)
   | (with_reducible exact reply_writer_count.mono _ _ _ _)
   | (with_reducible exact reply_writer_num.mono _ _ _ _)
   | (with_reducible exact reply_writer_put.mono _ _ _ _ _)
   | (with_reducible exact reply_writer_text.mono _ _ _ _)
   | (with_reducible exact reply_writer_told.mono _ _ _ _ _ _ _ _ _)
   | (with_reducible exact LeO.refl _)
   | (with_reducible exact LeO.none _)
   | (with_reducible refine LeO.ite ?_ ?_)
   | (with_reducible refine LeO.bind ?_ (fun _ => ?_))
   | exact ih0 _ _ _ _ _ _ _ _ _ _ _ _ _ _ _ _ _ _ _ _
   | exact ih1 _ _ _ _ _ _ _ _ _ _ _ _ _ _ _ _ _ _ _ _ _ _
   | exact ih2 _ _ _ _ _
   | exact ih3 _ _ _ _ _ _ _ _ _ _ _ _ _ _ _ _ _ _ _ _ _ _
   | exact ih4 _ _ _ _ _
   | exact ih5 _ _ _ _ _
   | exact reply_writer_count.mono _ _ _ _
   | exact reply_writer_num.mono _ _ _ _
   | exact reply_writer_put.mono _ _ _ _ _
   | exact reply_writer_text.mono _ _ _ _
   | exact reply_writer_told.mono _ _ _ _ _ _ _ _ _
   | exact LeO.none _
   | refine LeO.ite ?_ ?_
   | refine LeO.bind ?_ (fun _ => ?_)
set_option maxHeartbeats 8000000 in
set_option maxRecDepth 100000 in
theorem reply_writer_reply.calls (k : Nat) (g : Nat) (s0_0 : List Int) (s0_1 : Bool) (a1_0 : Int) (a1_1 : Int) (a1_2 : Int) (a1_3 : Int) (A1_4 : Option Addr) (c1_4 : Nat) (l1_4 : List (S79)) (a1_5 : Int) (a1_6 : Bool) (A1_7 : Option Addr) (c1_7 : Nat) (l1_7 : List (S79)) (a1_8 : Int) (a1_9 : Bool) (A1_10 : Option Addr) (c1_10 : Nat) (l1_10 : List (S27)) (a1_11 : Int) (a1_12 : Int) (a1_13 : Int) (A1_14 : Option Addr) (c1_14 : Nat) (l1_14 : List Int) (A1_15 : Option Addr) (c1_15 : Nat) (l1_15 : List (List Int)) (a1_16 : Int) (a1_17 : Int) (r1 : List Int) (r2 : Bool) (w wS : World) (hI : IsS62 w wS wS g s0_0 s0_1) (hB : Below w.heap.size w wS) (hr1_4 : Kd.C k79 w A1_4 l1_4.length l1_4) (hc1_4 : l1_4.length ≤ c1_4) (hr1_7 : Kd.C k79 w A1_7 l1_7.length l1_7) (hc1_7 : l1_7.length ≤ c1_7) (hr1_10 : Kd.C k27 w A1_10 l1_10.length l1_10) (hc1_10 : l1_10.length ≤ c1_10) (hr1_14 : Kd.C (Kd.int .i64) w A1_14 l1_14.length l1_14) (hc1_14 : l1_14.length ≤ c1_14) (hr1_15 : Kd.C (Kd.slice 5 (Kd.int .u8)) w A1_15 l1_15.length l1_15) (hc1_15 : l1_15.length ≤ c1_15) (h : reply_writer_reply.f k s0_0 s0_1 a1_0 a1_1 a1_2 a1_3 l1_4 a1_5 a1_6 l1_7 a1_8 a1_9 l1_10 a1_11 a1_12 a1_13 l1_14 l1_15 a1_16 a1_17 = some (r1, r2)) :
  Calls Try.prog 22 #[.pointer (some ⟨g, 0, none⟩), .agg #[.int .i64 a1_0, .int .i64 a1_1, .int .i64 a1_2, .int .i64 a1_3, .slice A1_4 l1_4.length c1_4, .int .i64 a1_5, .bool a1_6, .slice A1_7 l1_7.length c1_7, .int .i64 a1_8, .bool a1_9, .slice A1_10 l1_10.length c1_10, .int .i64 a1_11, .int .i64 a1_12, .int .i64 a1_13, .slice A1_14 l1_14.length c1_14, .slice A1_15 l1_15.length c1_15, .int .u32 a1_16, .int .i64 a1_17]] wS fun e w' => e = .returned (.tuple #[]) ∧ IsS62 w wS w' g r1 r2 ∧ Below w.heap.size w w' := by
 have hu33 := Try.underlying33; have hu27 := Try.underlying27; have HR1_4 := Aside0.mk hr1_4; have HC1_4 := Aside0.mk hc1_4; clear hr1_4 hc1_4; have HR1_7 := Aside0.mk hr1_7; have HC1_7 := Aside0.mk hc1_7; clear hr1_7 hc1_7; have HR1_10 := Aside0.mk hr1_10; have HC1_10 := Aside0.mk hc1_10; clear hr1_10 hc1_10; have HR1_14 := Aside0.mk hr1_14; have HC1_14 := Aside0.mk hc1_14; clear hr1_14 hc1_14; have HR1_15 := Aside0.mk hr1_15; have HC1_15 := Aside0.mk hc1_15; clear hr1_15 hc1_15; have HI0 := Aside0.mk hI; have HB := Aside0.mk hB; clear hI hB; have H := h; unfold reply_writer_reply.f at H; clear h; replace H := Option.bind_eq_some_iff.mp H; obtain ⟨⟨t186, t187⟩, A30, H⟩ := H; (try dsimp only at H); have A3 := Aside0.mk A30; clear A30; replace H := Option.bind_eq_some_iff.mp H; obtain ⟨⟨t188, t189⟩, A40, H⟩ := H; (try dsimp only at H); have A4 := Aside0.mk A40; clear A40; replace H := Option.bind_eq_some_iff.mp H; obtain ⟨⟨t190, t191⟩, A50, H⟩ := H; (try dsimp only at H); have A5 := Aside0.mk A50; clear A50; replace H := Option.bind_eq_some_iff.mp H; obtain ⟨⟨t192, t193⟩, A60, H⟩ := H; (try dsimp only at H); have A6 := Aside0.mk A60; clear A60; have HC7 := Aside0.mk H; clear H
 go_enter Try.func22, Try.ntmps22
 go_upto_region 5 with (first | ((with_reducible refine gate_dst (N := 3) rfl ?_); refine box_event ?hg (N := 3) ?hd (cs := #[.int .i64 a1_0, .int .i64 a1_1, .int .i64 a1_2, .int .i64 a1_3, .slice A1_4 l1_4.length c1_4, .int .i64 a1_5, .bool a1_6, .slice A1_7 l1_7.length c1_7, .int .i64 a1_8, .bool a1_9, .slice A1_10 l1_10.length c1_10, .int .i64 a1_11, .int .i64 a1_12, .int .i64 a1_13, .slice A1_14 l1_14.length c1_14, .slice A1_15 l1_15.length c1_15, .int .u32 a1_16, .int .i64 a1_17]) (t := 33) ?hr ?_; (case hd => rfl); (case hg => rfl); (case hr => first | (go_simp; done) | (go_simp; rfl)); intro gb185 hg w8 hbox hb; have BK185 := Ext.a (hbox); have GW185 := Ext.gw hg (below_size (Ext.s1 (IsS62.ge HI0.out) HB.out)); have GE185 := Ext.gw hg (below_size (Ext.s1 (IsS62.ge HI0.out) HB.out)); replace HB := Ext.a (below_step (Ext.s1 (IsS62.ge HI0.out) HB.out) hb); have GS185 := Ext.gw hg (show IsS62 w wS _ g s0_0 s0_1 from by exact IsS62.go HI0.out).2.1; have NB0_185 := Ext.nt hg (IsS62.lt (IsS62.go HI0.out)); have NB185_0 := Ext.ng hg (IsS62.lt (IsS62.go HI0.out)); replace HI0 := Ext.a (IsS62.below (IsS62.go HI0.out) hb); clear hb hbox hg; have hnb9 := NB185_0.out; have hnc9 := NB0_185.out; have hcz10 := Ext.cells18 BK185.out; have hfz10 := Ext.froz18 BK185.out) | ((with_reducible refine gate_callee (f := 41) rfl ?_); refine Ext.gs (some 13) rfl rfl Try.func41 #[.pointer (some ⟨g, 0, none⟩), .int .i64 a1_0] rfl ?_; (with_reducible refine (reply_writer_small.calls g s0_0 s0_1 a1_0 t186 t187 w _ ?side1 ?side2 A3.out).mono ?_); (case side1 => refine IsS62.now (wF := wS) ?_; exact IsS62.go HI0.out); (case side2 => exact Ext.s2 GE185.out (IsS62.ge HI0.out) HB.out); rintro e w11 ⟨rfl, hi, hb⟩; refine ⟨_, rfl, ?_⟩; replace HB := Ext.a (hb); replace HI0 := Ext.a (IsS62.then (by exact IsS62.go HI0.out) hi); replace BK185 := Ext.a (IsS62.blk hi (by exact BK185.out) NB185_0.out (by decide)); (try clear hb hi); have hcz12 := Ext.cells18 BK185.out; have hfz12 := Ext.froz18 BK185.out) | ((with_reducible refine gate_callee (f := 41) rfl ?_); refine Ext.gs (some 17) rfl rfl Try.func41 #[.pointer (some ⟨g, 0, none⟩), .int .i64 a1_1] rfl ?_; (with_reducible refine (reply_writer_small.calls g t186 t187 a1_1 t188 t189 w _ ?side1 ?side2 A4.out).mono ?_); (case side1 => refine IsS62.now (wF := wS) ?_; exact IsS62.go HI0.out); (case side2 => exact Ext.s2 GE185.out (IsS62.ge HI0.out) HB.out); rintro e w13 ⟨rfl, hi, hb⟩; refine ⟨_, rfl, ?_⟩; replace HB := Ext.a (hb); replace HI0 := Ext.a (IsS62.then (by exact IsS62.go HI0.out) hi); replace BK185 := Ext.a (IsS62.blk hi (by exact BK185.out) NB185_0.out (by decide)); (try clear hb hi); have hcz14 := Ext.cells18 BK185.out; have hfz14 := Ext.froz18 BK185.out) | ((with_reducible refine gate_callee (f := 42) rfl ?_); refine Ext.gs (some 21) rfl rfl Try.func42 #[.pointer (some ⟨g, 0, none⟩), .int .i64 a1_2] rfl ?_; (with_reducible refine (reply_writer_num.calls k g t188 t189 a1_2 t190 t191 w _ ?side1 ?side2 A5.out).mono ?_); (case side1 => refine IsS62.now (wF := wS) ?_; exact IsS62.go HI0.out); (case side2 => exact Ext.s2 GE185.out (IsS62.ge HI0.out) HB.out); rintro e w15 ⟨rfl, hi, hb⟩; refine ⟨_, rfl, ?_⟩; replace HB := Ext.a (hb); replace HI0 := Ext.a (IsS62.then (by exact IsS62.go HI0.out) hi); replace BK185 := Ext.a (IsS62.blk hi (by exact BK185.out) NB185_0.out (by decide)); (try clear hb hi); have hcz16 := Ext.cells18 BK185.out; have hfz16 := Ext.froz18 BK185.out) | ((with_reducible refine gate_callee (f := 42) rfl ?_); refine Ext.gs (some 25) rfl rfl Try.func42 #[.pointer (some ⟨g, 0, none⟩), .int .i64 a1_17] rfl ?_; (with_reducible refine (reply_writer_num.calls k g t190 t191 a1_17 t192 t193 w _ ?side1 ?side2 A6.out).mono ?_); (case side1 => refine IsS62.now (wF := wS) ?_; exact IsS62.go HI0.out); (case side2 => exact Ext.s2 GE185.out (IsS62.ge HI0.out) HB.out); rintro e w17 ⟨rfl, hi, hb⟩; refine ⟨_, rfl, ?_⟩; replace HB := Ext.a (hb); replace HI0 := Ext.a (IsS62.then (by exact IsS62.go HI0.out) hi); replace BK185 := Ext.a (IsS62.blk hi (by exact BK185.out) NB185_0.out (by decide)); (try clear hb hi)))
 (try simp only [Act.put, Ext.sb, Ext.sz, Ext.ss])
 go_cut [] (fun wc => ∃ (kq : Nat) (x1001_6 : Bool), Aside0 (reply_writer_reply.j0 kq t192 x1001_6 a1_0 a1_1 a1_2 a1_3 l1_4 a1_5 a1_6 l1_7 a1_8 a1_9 l1_10 a1_11 a1_12 a1_13 l1_14 l1_15 a1_16 a1_17 = some (r1, r2)) ∧ Aside0 (kq ≤ k) ∧ Aside0 (wc.heap[gb185]? = some (.cells #[.int .i64 a1_0, .int .i64 a1_1, .int .i64 a1_2, .int .i64 a1_3, (.slice A1_4 l1_4.length c1_4), .int .i64 a1_5, .bool a1_6, (.slice A1_7 l1_7.length c1_7), .int .i64 a1_8, .bool a1_9, (.slice A1_10 l1_10.length c1_10), .int .i64 a1_11, .int .i64 a1_12, .int .i64 a1_13, (.slice A1_14 l1_14.length c1_14), (.slice A1_15 l1_15.length c1_15), .int .u32 a1_16, .int .i64 a1_17] 33 (0, 0))) ∧ Aside0 (IsS62 w wS wc g t192 x1001_6) ∧ Aside0 (Below w.heap.size w wc))
 case first =>
  have H := HC7.out; clear HC7
  by_cases c18 : t193 = true
  ·
   subst c18; rw [if_pos rfl] at H; have H' := Aside0.mk H; clear H; obtain ⟨⟨vbz19, HGz19, hgz19, hoz19⟩, hfz19⟩ := HI0.out; have hcz19_1 := cellS62_1 HGz19; have hfz19_1 := blk_frozen HGz19 1; clear HGz19 hgz19 hoz19 hfz19
   go_wp2
   go_meet
   case rel => exact ⟨_, (true), H', ⟨by first | omega | exact Nat.le_refl _⟩, ⟨by exact Ext.pb1 NB185_0.out BK185.out⟩, ⟨by exact IsS62.go HI0.out⟩, ⟨by exact Ext.s2 GE185.out (IsS62.ge HI0.out) HB.out⟩⟩
  ·
   replace c18 := Bool.eq_false_iff.mpr c18; subst c18; rw [if_neg Bool.false_ne_true] at H
   by_cases c20 : a1_0 < 0
   ·
    rw [if_pos c20] at H; have c20b0 := decide_eq_true c20; clear c20
    (first | rw [c20b0] | (simp only [i64_w, i32_w]; rw [c20b0]) | skip)
    have H' := Aside0.mk H; clear H; obtain ⟨⟨vbz21, HGz21, hgz21, hoz21⟩, hfz21⟩ := HI0.out; have hcz21_1 := cellS62_1 HGz21; have hfz21_1 := blk_frozen HGz21 1; clear HGz21 hgz21 hoz21 hfz21; have hnb22 := NB185_0.out; have hnc22 := NB0_185.out; have hcz23 := Ext.cells18 BK185.out; have hfz23 := Ext.froz18 BK185.out
    go_wp2
    go_meet
    case rel => exact ⟨_, (true), H', ⟨by first | omega | exact Nat.le_refl _⟩, ⟨by exact Ext.pb1 NB185_0.out BK185.out⟩, ⟨by exact IsS62.go HI0.out⟩, ⟨by exact Ext.s2 GE185.out (IsS62.ge HI0.out) HB.out⟩⟩
   ·
    rw [if_neg c20] at H; have c20b0 := decide_eq_false c20; clear c20
    (first | rw [c20b0] | (simp only [i64_w, i32_w]; rw [c20b0]) | skip)
    have H' := Aside0.mk H; clear H; obtain ⟨⟨vbz24, HGz24, hgz24, hoz24⟩, hfz24⟩ := HI0.out; have hcz24_1 := cellS62_1 HGz24; have hfz24_1 := blk_frozen HGz24 1; clear HGz24 hgz24 hoz24 hfz24; have hnb25 := NB185_0.out; have hnc25 := NB0_185.out; have hcz26 := Ext.cells18 BK185.out; have hfz26 := Ext.froz18 BK185.out
    go_wp2
    go_meet
    case rel => exact ⟨_, (decide (a1_0 > 17)), H', ⟨by first | omega | exact Nat.le_refl _⟩, ⟨by exact Ext.pb1 NB185_0.out BK185.out⟩, ⟨by exact IsS62.go HI0.out⟩, ⟨by exact Ext.s2 GE185.out (IsS62.ge HI0.out) HB.out⟩⟩
 case rest =>
  clear HC7; (try clear c1 c2 p2 c4 c9 c20b0 c22 c25 hcz10 hcz12 hcz14 hcz16 hcz19_1 hcz21_1 hcz23 hcz24_1 hcz26 hfz10 hfz12 hfz14 hfz16 hfz19_1 hfz21_1 hfz23 hfz24_1 hfz26); obtain ⟨kq, x1001_6, HA, HJ6, BK185, HI0, HB⟩ := hcut; cases kq with
  | zero => exact absurd HA.out (by simp [reply_writer_reply.j0])
  | succ kj6 =>
   have H := HA.out; clear HA; simp only [reply_writer_reply.j0] at H
   by_cases c27 : a1_1 = 0
   ·
    rw [if_pos c27] at H; obtain ⟨c27b0, c27b1⟩ := Ext.eT c27; clear c27; have HC28 := Aside0.mk H; clear H; have hnb29 := NB185_0.out; have hnc29 := NB0_185.out; have hcz30 := Ext.cells18 BK185.out; have hfz30 := Ext.froz18 BK185.out
    go_upto_if 48 with (fail)
    go_cut [48] (fun v48 wc => ∃ (kq : Nat) (x48_27 : Bool), v48 = .bool x48_27 ∧ Aside0 (reply_writer_reply.j1 kq a1_0 x48_27 t192 x1001_6 a1_0 a1_1 a1_2 a1_3 l1_4 a1_5 a1_6 l1_7 a1_8 a1_9 l1_10 a1_11 a1_12 a1_13 l1_14 l1_15 a1_16 a1_17 = some (r1, r2)) ∧ Aside0 (kq ≤ kj6) ∧ Aside0 (wc.heap[gb185]? = some (.cells #[.int .i64 a1_0, .int .i64 a1_1, .int .i64 a1_2, .int .i64 a1_3, (.slice A1_4 l1_4.length c1_4), .int .i64 a1_5, .bool a1_6, (.slice A1_7 l1_7.length c1_7), .int .i64 a1_8, .bool a1_9, (.slice A1_10 l1_10.length c1_10), .int .i64 a1_11, .int .i64 a1_12, .int .i64 a1_13, (.slice A1_14 l1_14.length c1_14), (.slice A1_15 l1_15.length c1_15), .int .u32 a1_16, .int .i64 a1_17] 33 (0, 0))) ∧ Aside0 (IsS62 w wS wc g t192 x1001_6) ∧ Aside0 (Below w.heap.size w wc))
    case first =>
     have H := HC28.out; clear HC28
     by_cases c31 : a1_0 = 1
     case' _ =>
      rw [if_pos c31] at H; obtain ⟨c31b0, c31b1⟩ := Ext.eT c31; clear c31
      (first | rw [c31b0] | (simp only [i64_w, i32_w]; rw [c31b0]) | skip)
     rotate_left 1
     case' _ =>
      rw [if_neg c31] at H; obtain ⟨c31b0, c31b1⟩ := Ext.eF c31
      (first | rw [c31b0] | (simp only [i64_w, i32_w]; rw [c31b0]) | skip)
      by_cases c32 : a1_0 = 2
      case' _ =>
       rw [if_pos c32] at H; obtain ⟨c32b0, c32b1⟩ := Ext.eT c32; clear c32
      rotate_left 1
      case' _ =>
       rw [if_neg c32] at H; obtain ⟨c32b0, c32b1⟩ := Ext.eF c32
     all_goals (have H' := Aside0.mk H; clear H; go_wp2; go_meet; (case rel => exact ⟨_, _, (by first | rfl | (simp; done) | (simp [*]; done)), H', ⟨by have := HJ6.out; first | omega | exact Nat.le_refl _⟩, ⟨by exact BK185.out⟩, ⟨by exact IsS62.go HI0.out⟩, ⟨by exact Ext.s2 GE185.out (IsS62.ge HI0.out) HB.out⟩⟩))
    case rest =>
     clear HC28; (try clear c3 c27b0 c27b1 c29 c31b0 c31b1 c32b0 c32b1 hcz30 hfz30); obtain ⟨kq, x48_27, rfl, HA, HJ27, BK185, HI0, HB⟩ := hcut; cases kq with
     | zero => exact absurd HA.out (by simp [reply_writer_reply.j1])
     | succ kj27 =>
      have H := HA.out; clear HA; simp only [reply_writer_reply.j1] at H
      by_cases c33 : x48_27 = true
      ·
       subst c33; rw [if_pos rfl] at H
       by_cases c34 : x1001_6 = true
       ·
        subst c34; rw [if_pos rfl] at H; replace H := Option.bind_eq_some_iff.mp H; obtain ⟨⟨t194, t195⟩, A350, H⟩ := H; (try dsimp only at H); have A35 := Aside0.mk A350; clear A350; simp only [Option.some.injEq, Prod.mk.injEq] at H; obtain ⟨rfl, rfl⟩ := H; obtain ⟨⟨vbz36, HGz36, hgz36, hoz36⟩, hfz36⟩ := HI0.out; have hcz36_1 := cellS62_1 HGz36; have hfz36_1 := blk_frozen HGz36 1; clear HGz36 hgz36 hoz36 hfz36; have hnb37 := NB185_0.out; have hnc37 := NB0_185.out; have hcz38 := Ext.cells18 BK185.out; have hfz38 := Ext.froz18 BK185.out
        go_wp2_with (first | ((with_reducible refine gate_callee (f := 43) rfl ?_); refine Ext.gs (some 70) rfl rfl Try.func43 #[.pointer (some ⟨g, 0, none⟩), .agg #[.int .i64 a1_3, .slice A1_4 l1_4.length c1_4, .int .i64 a1_5, .bool a1_6, .slice A1_7 l1_7.length c1_7, .int .i64 a1_8]] rfl ?_; (with_reducible refine (reply_writer_told.calls kj27 g t192 true a1_3 _ _ l1_4 a1_5 a1_6 _ _ l1_7 a1_8 t194 t195 w _ ?side1 ?side2 ?side3 ?side4 ?side5 ?side6 A35.out).mono ?_); (case side1 => refine IsS62.now (wF := wS) ?_; exact IsS62.go HI0.out); (case side2 => exact Ext.s2 GE185.out (IsS62.ge HI0.out) HB.out); (case side3 => exact HR1_4.out); (case side4 => exact HC1_4.out); (case side5 => exact HR1_7.out); (case side6 => exact HC1_7.out); rintro e w39 ⟨rfl, hi, hb⟩; refine ⟨_, rfl, ?_⟩; replace HB := Ext.a (hb); replace HI0 := Ext.a (IsS62.then (by exact IsS62.go HI0.out) hi); replace BK185 := Ext.a (IsS62.blk hi (blk_far BK185.out NB185_0.out _) NB185_0.out (by decide)); (try clear hb hi)))
        first | go_end0 | ((try simp only [Exit.inBlock, Exit.then]); refine bodyPost_ret (results_none rfl _ _ _) rfl ?_)
        exact ⟨by first | rfl | (simp [errW_none, errW_some] <;> rfl) | (simp [*, errW_none, errW_some] <;> rfl), by exact IsS62.go HI0.out, by exact Ext.s2 GE185.out (IsS62.ge HI0.out) HB.out⟩
       ·
        replace c34 := Bool.eq_false_iff.mpr c34; subst c34; rw [if_neg Bool.false_ne_true] at H; replace H := Option.bind_eq_some_iff.mp H; obtain ⟨⟨t196, t197⟩, A400, H⟩ := H; (try dsimp only at H); have A40 := Aside0.mk A400; clear A400; simp only [Option.some.injEq, Prod.mk.injEq] at H; obtain ⟨rfl, rfl⟩ := H; obtain ⟨⟨vbz41, HGz41, hgz41, hoz41⟩, hfz41⟩ := HI0.out; have hcz41_1 := cellS62_1 HGz41; have hfz41_1 := blk_frozen HGz41 1; clear HGz41 hgz41 hoz41 hfz41; have hnb42 := NB185_0.out; have hnc42 := NB0_185.out; have hcz43 := Ext.cells18 BK185.out; have hfz43 := Ext.froz18 BK185.out
        go_wp2_with (first | ((with_reducible refine gate_callee (f := 43) rfl ?_); refine Ext.gs (some 70) rfl rfl Try.func43 #[.pointer (some ⟨g, 0, none⟩), .agg #[.int .i64 a1_3, .slice A1_4 l1_4.length c1_4, .int .i64 a1_5, .bool a1_6, .slice A1_7 l1_7.length c1_7, .int .i64 a1_8]] rfl ?_; (with_reducible refine (reply_writer_told.calls kj27 g t192 (a1_3 != a1_0) a1_3 _ _ l1_4 a1_5 a1_6 _ _ l1_7 a1_8 t196 t197 w _ ?side1 ?side2 ?side3 ?side4 ?side5 ?side6 A40.out).mono ?_); (case side1 => refine IsS62.now (wF := wS) ?_; exact IsS62.go HI0.out); (case side2 => exact Ext.s2 GE185.out (IsS62.ge HI0.out) HB.out); (case side3 => exact HR1_4.out); (case side4 => exact HC1_4.out); (case side5 => exact HR1_7.out); (case side6 => exact HC1_7.out); rintro e w44 ⟨rfl, hi, hb⟩; refine ⟨_, rfl, ?_⟩; replace HB := Ext.a (hb); replace HI0 := Ext.a (IsS62.then (by exact IsS62.go HI0.out) hi); replace BK185 := Ext.a (IsS62.blk hi (blk_far BK185.out NB185_0.out _) NB185_0.out (by decide)); (try clear hb hi)))
        first | go_end0 | ((try simp only [Exit.inBlock, Exit.then]); refine bodyPost_ret (results_none rfl _ _ _) rfl ?_)
        exact ⟨by first | rfl | (simp [errW_none, errW_some] <;> rfl) | (simp [*, errW_none, errW_some] <;> rfl), by exact IsS62.go HI0.out, by exact Ext.s2 GE185.out (IsS62.ge HI0.out) HB.out⟩
      ·
       replace c33 := Bool.eq_false_iff.mpr c33; subst c33; rw [if_neg Bool.false_ne_true] at H
       by_cases c45 : a1_0 = 4
       ·
        rw [if_pos c45] at H; obtain ⟨c45b0, c45b1⟩ := Ext.eT c45; clear c45; replace H := Option.bind_eq_some_iff.mp H; obtain ⟨⟨t198, t199⟩, A460, H⟩ := H; (try dsimp only at H); have A46 := Aside0.mk A460; clear A460; replace H := Option.bind_eq_some_iff.mp H; obtain ⟨⟨t200, t201, t202⟩, A470, H⟩ := H; (try dsimp only at H); have A47 := Aside0.mk A470; clear A470
        by_cases c48 : t200 = true
        ·
         subst c48; rw [if_pos rfl] at H; have H' := Aside0.mk H; clear H; have hnb49 := NB185_0.out; have hnc49 := NB0_185.out; have hcz50 := Ext.cells18 BK185.out; have hfz50 := Ext.froz18 BK185.out
         go_wp2_with (first | ((with_reducible refine gate_callee (f := 44) rfl ?_); refine Ext.gs (some 76) rfl rfl Try.func44 #[.pointer (some ⟨g, 0, none⟩), .bool a1_9] rfl ?_; (with_reducible refine (reply_writer_flag.calls g t192 x1001_6 a1_9 t198 t199 w _ ?side1 ?side2 A46.out).mono ?_); (case side1 => refine IsS62.now (wF := wS) ?_; exact IsS62.go HI0.out); (case side2 => exact Ext.s2 GE185.out (IsS62.ge HI0.out) HB.out); rintro e w51 ⟨rfl, hi, hb⟩; refine ⟨_, rfl, ?_⟩; replace HB := Ext.a (hb); replace HI0 := Ext.a (IsS62.then (by exact IsS62.go HI0.out) hi); replace BK185 := Ext.a (IsS62.blk hi (by exact BK185.out) NB185_0.out (by decide)); (try clear hb hi); have hcz52 := Ext.cells18 BK185.out; have hfz52 := Ext.froz18 BK185.out) | ((with_reducible refine gate_callee (f := 45) rfl ?_); refine Ext.gs (some 81) rfl rfl Try.func45 #[.pointer (some ⟨g, 0, none⟩), .int .i64 (l1_10.length : Int)] rfl ?_; (with_reducible refine (reply_writer_count.calls kj27 g t198 t199 (l1_10.length : Int) true t201 t202 w _ ?side1 ?side2 A47.out).mono ?_); (case side1 => refine IsS62.now (wF := wS) ?_; exact IsS62.go HI0.out); (case side2 => exact Ext.s2 GE185.out (IsS62.ge HI0.out) HB.out); rintro e w53 ⟨rfl, hi, hb⟩; refine ⟨_, rfl, ?_⟩; replace HB := Ext.a (hb); replace HI0 := Ext.a (IsS62.then (by exact IsS62.go HI0.out) hi); replace BK185 := Ext.a (IsS62.blk hi (by exact BK185.out) NB185_0.out (by decide)); (try clear hb hi); have hcz54 := Ext.cells18 BK185.out; have hfz54 := Ext.froz18 BK185.out))
         go_loopg [85] kj27 (fun kq v85 w' => ∃ (x85_3 : Int) (x1000_3 : List Int) (x1001_3 : Bool), v85 = .int .i64 x85_3 ∧ Aside0 (reply_writer_reply.l0 kq l1_10 (l1_10.length : Int) x85_3 x1000_3 x1001_3 = some (r1, r2)) ∧ Aside0 (kq ≤ kj27) ∧ Aside0 (w'.heap[gb185]? = some (.cells #[.int .i64 a1_0, .int .i64 a1_1, .int .i64 a1_2, .int .i64 a1_3, (.slice A1_4 l1_4.length c1_4), .int .i64 a1_5, .bool a1_6, (.slice A1_7 l1_7.length c1_7), .int .i64 a1_8, .bool a1_9, (.slice A1_10 l1_10.length c1_10), .int .i64 a1_11, .int .i64 a1_12, .int .i64 a1_13, (.slice A1_14 l1_14.length c1_14), (.slice A1_15 l1_15.length c1_15), .int .u32 a1_16, .int .i64 a1_17] 33 (0, 0))) ∧ Aside0 (IsS62 w wS w' g x1000_3 x1001_3) ∧ Aside0 (Below w.heap.size w w'))
         case atStart => exact ⟨(0), (t201), (t202), (by first | rfl | (simp; done) | (simp [*]; done)), H', ⟨Nat.le_refl _⟩, ⟨by exact BK185.out⟩, ⟨by exact IsS62.go HI0.out⟩, ⟨by exact Ext.s2 GE185.out (IsS62.ge HI0.out) HB.out⟩⟩
         case round =>
          clear H'; (try clear c37 c42 c43 c44 c45b0 c45b1 c49 hcz36_1 hcz38 hcz41_1 hcz43 hcz50 hcz52 hcz54 hfz36_1 hfz38 hfz41_1 hfz43 hfz50 hfz52 hfz54); obtain ⟨x85_3, x1000_3, x1001_3, rfl, HA, HK3, BK185, HI0, HB⟩ := hrel; cases gk with
          | zero => exact absurd HA.out (by simp [reply_writer_reply.l0])
          | succ k3 =>
           have H := HA.out; clear HA; simp only [reply_writer_reply.l0] at H
           by_cases c55 : x85_3 < (l1_10.length : Int)
           ·
            rw [if_pos c55] at H; have c55b0 := decide_eq_true c55; clear c55
            by_cases c56 : 0 ≤ x85_3
            ·
             rw [if_pos c56] at H; have c56b0 := decide_eq_true c56; clear c56
             by_cases c57 : x85_3 < (l1_10.length : Int)
             ·
              rw [if_pos c57] at H; have c57b0 := decide_eq_true c57; clear c57; replace H := Option.bind_eq_some_iff.mp H; obtain ⟨⟨t205, t206⟩, A580, H⟩ := H; (try dsimp only at H); have A58 := Aside0.mk A580; clear A580; have H' := Aside0.mk H; clear H; have p203 : 0 ≤ (x85_3 : Int) := of_decide_eq_true (by first | (with_reducible assumption) | assumption); have q203 : x85_3 < (l1_10.length : Int) := of_decide_eq_true (by first | (with_reducible assumption) | assumption); obtain ⟨ad203, A203_1, c203_1, A203_4, c203_4, e203, hx203_0, hx203_1, hx203_2, hx203_3, hx203_4, hx203_5, hl203_1, hi203_1, hl203_4, hi203_4⟩ := at_T27 HR1_10.out x85_3 p203 q203; cases e203; replace hx203_0 := (HB.out.cell (World.block_lt_of_cell? w _ hx203_0)).trans hx203_0; replace hx203_1 := (HB.out.cell (World.block_lt_of_cell? w _ hx203_1)).trans hx203_1; replace hx203_2 := (HB.out.cell (World.block_lt_of_cell? w _ hx203_2)).trans hx203_2; replace hx203_3 := (HB.out.cell (World.block_lt_of_cell? w _ hx203_3)).trans hx203_3; replace hx203_4 := (HB.out.cell (World.block_lt_of_cell? w _ hx203_4)).trans hx203_4; replace hx203_5 := (HB.out.cell (World.block_lt_of_cell? w _ hx203_5)).trans hx203_5; have HR203_1 := Aside0.mk hi203_1; have HC203_1 := Aside0.mk hl203_1; clear hi203_1 hl203_1; have HR203_4 := Aside0.mk hi203_4; have HC203_4 := Aside0.mk hl203_4; clear hi203_4 hl203_4; replace p203 := eq_true p203; replace q203 := eq_true q203
              go_wp2_with (first | ((with_reducible refine gate_dst (N := 88) rfl ?_); (try (refine gate_guard (by rfl) ?_; dsimp only)); refine Ext.struct_load (hgd := ?hg) (t := 27) (x := ?vx_88) (ho := ?ho) (cs := [.int .i64 ((rd_T27 l1_10 x85_3).f0), .slice A203_1 ((rd_T27 l1_10 x85_3).f1.f0).length c203_1, .int .i64 ((rd_T27 l1_10 x85_3).f1.f1), .bool ((rd_T27 l1_10 x85_3).f1.f2), .slice A203_4 ((rd_T27 l1_10 x85_3).f2).length c203_4, .int .i64 ((rd_T27 l1_10 x85_3).f3)]) (haddr := ?ha) Try.underlying27 rfl (by kernel_rfl) ⟨hx203_0, hx203_1, hx203_2, hx203_3, hx203_4, hx203_5, trivial⟩ ?_; (case ho => rfl); (case hg => rfl); (case ha => rfl)) | ((with_reducible refine gate_dst (N := 5) rfl ?_); refine Ext.alloc_event (hgd := ?hg) (N := 5) (_hd := ?hd) (t := 27) (ho := ?ho) info27 ?_; (case ho => rfl); (case hd => rfl); (case hg => rfl); intro gb204 hg w59 hbox hb; have BK204 := Ext.a (hbox); have GW204 := Ext.gw hg (below_size (Ext.s2 GE185.out (IsS62.ge HI0.out) HB.out)); have GE204 := Ext.gw hg (below_size (Ext.s2 GE185.out (IsS62.ge HI0.out) HB.out)); replace HB := Ext.a (below_step (Ext.s2 GE185.out (IsS62.ge HI0.out) HB.out) hb); have GS204 := Ext.gw hg (show IsS62 w wS _ g x1000_3 x1001_3 from by exact IsS62.go HI0.out).2.1; have NB185_204 := Ext.nt hg (blk_lt BK185.out); have NB204_185 := Ext.ng hg (blk_lt BK185.out); have NB0_204 := Ext.nt hg (IsS62.lt (by exact IsS62.go HI0.out)); have NB204_0 := Ext.ng hg (IsS62.lt (by exact IsS62.go HI0.out)); replace HI0 := Ext.a (IsS62.below (by exact IsS62.go HI0.out) hb); replace BK185 := Ext.a (blk_below BK185.out hb); clear hb hbox hg; have hnb60 := NB204_185.out; have hnc60 := NB185_204.out; have hnb61 := NB204_0.out; have hnc61 := NB0_204.out; obtain ⟨hcz62_0, hcz62_1, hcz62_2, hcz62_3, hcz62_4, hcz62_5⟩ := Ext.cells6 BK204.out; obtain ⟨hfz62_0, hfz62_1, hfz62_2, hfz62_3, hfz62_4, hfz62_5⟩ := Ext.froz6 BK204.out) | ((with_reducible refine gate_store (t := 27) (p := 5) rfl ?_); refine Ext.struct_store (hgd := ?hg) (hN := ?hn) (t := 27) (p := .tmp 5) (x := ?vo_w63) (ho := ?ho) (cells := #[.int .i64 ((rd_T27 l1_10 x85_3).f0), .slice A203_1 ((rd_T27 l1_10 x85_3).f1.f0).length c203_1, .int .i64 ((rd_T27 l1_10 x85_3).f1.f1), .bool ((rd_T27 l1_10 x85_3).f1.f2), .slice A203_4 ((rd_T27 l1_10 x85_3).f2).length c203_4, .int .i64 ((rd_T27 l1_10 x85_3).f3)]) (haddr := ?ha) (hx := ?hx) BK204.out rfl (by kernel_rfl) rfl ?_; (case ho => rfl); (case hg => rfl); (case hn => rfl); (case ha => rfl); (case hx => first | rfl | (go_simp; done)); intro w63 hx_ hk_ hbl_; replace BK185 := Ext.a (KeepBut.blk hk_ BK185.out NB185_204.out (by simp)); replace HI0 := Ext.a (IsS62.keepb HI0.out hk_ (Ext.Typ.of BK204.out) NB0_204.out GS204.out (by decide)); replace BK204 := Ext.a (hx_); replace HB := Ext.a (hbl_ _ _ HB.out GE204.out); clear hx_ hk_ hbl_; obtain ⟨hcz64_0, hcz64_1, hcz64_2, hcz64_3, hcz64_4, hcz64_5⟩ := Ext.cells6 BK204.out; obtain ⟨hfz64_0, hfz64_1, hfz64_2, hfz64_3, hfz64_4, hfz64_5⟩ := Ext.froz6 BK204.out) | ((with_reducible refine gate_dst (N := 90) rfl ?_); (try (refine gate_guard (by rfl) ?_; dsimp only)); refine Ext.struct_load_blk (hgd := ?hg) (t := 27) (x := ?vx_90) (ho := ?ho) (haddr := ?ha) Try.underlying27 rfl (by kernel_rfl) BK204.out ?_; (case ho => rfl); (case hg => rfl); (case ha => rfl)) | ((with_reducible refine gate_callee (f := 43) rfl ?_); refine Ext.gs (some 91) rfl rfl Try.func43 #[.pointer (some ⟨g, 0, none⟩), .agg #[.int .i64 ((rd_T27 l1_10 x85_3).f0), .slice A203_1 ((rd_T27 l1_10 x85_3).f1.f0).length c203_1, .int .i64 ((rd_T27 l1_10 x85_3).f1.f1), .bool ((rd_T27 l1_10 x85_3).f1.f2), .slice A203_4 ((rd_T27 l1_10 x85_3).f2).length c203_4, .int .i64 ((rd_T27 l1_10 x85_3).f3)]] rfl ?_; (with_reducible refine (reply_writer_told.calls k3 g x1000_3 x1001_3 ((rd_T27 l1_10 x85_3).f0) _ _ ((rd_T27 l1_10 x85_3).f1.f0) ((rd_T27 l1_10 x85_3).f1.f1) ((rd_T27 l1_10 x85_3).f1.f2) _ _ ((rd_T27 l1_10 x85_3).f2) ((rd_T27 l1_10 x85_3).f3) t205 t206 w _ ?side1 ?side2 ?side3 ?side4 ?side5 ?side6 A58.out).mono ?_); (case side1 => refine IsS62.now (wF := wS) ?_; exact IsS62.go HI0.out); (case side2 => exact Ext.s3 GE185.out GE204.out (IsS62.ge HI0.out) HB.out); (case side3 => exact HR203_1.out); (case side4 => exact HC203_1.out); (case side5 => exact HR203_4.out); (case side6 => exact HC203_4.out); rintro e w65 ⟨rfl, hi, hb⟩; refine ⟨_, rfl, ?_⟩; replace HB := Ext.a (hb); replace HI0 := Ext.a (IsS62.then (by exact IsS62.go HI0.out) hi); replace BK185 := Ext.a (IsS62.blk hi (by exact BK185.out) NB185_0.out (by decide)); replace BK204 := Ext.a (IsS62.blk hi (by exact BK204.out) NB204_0.out (by decide)); (try clear hb hi)))
              go_roundg k3
              case measure => have := HJ6.out; have := HJ27.out; have := HK3.out; omega
              case rel => exact ⟨(wrap64 (x85_3 + 1)), (t205), (t206), (by first | rfl | (simp; done) | (simp [*]; done)), H', ⟨by have := HJ6.out; have := HJ27.out; have := HK3.out; omega⟩, ⟨by exact BK185.out⟩, ⟨by exact IsS62.go HI0.out⟩, ⟨by exact Ext.s3 GE185.out GE204.out (IsS62.ge HI0.out) HB.out⟩⟩
             · rw [if_neg c57] at H; exact absurd H (by simp)
            · rw [if_neg c56] at H; exact absurd H (by simp)
           ·
            rw [if_neg c55] at H; have c55b0 := decide_eq_false c55; clear c55; simp only [Option.some.injEq, Prod.mk.injEq] at H; obtain ⟨rfl, rfl⟩ := H
            go_wp2
            first | go_end0 | ((try simp only [Exit.inBlock, Exit.then]); refine bodyPost_ret (results_none rfl _ _ _) rfl ?_)
            exact ⟨by first | rfl | (simp [errW_none, errW_some] <;> rfl) | (simp [*, errW_none, errW_some] <;> rfl), by exact IsS62.go HI0.out, by exact Ext.s2 GE185.out (IsS62.ge HI0.out) HB.out⟩
        ·
         replace c48 := Bool.eq_false_iff.mpr c48; subst c48; rw [if_neg Bool.false_ne_true] at H; simp only [Option.some.injEq, Prod.mk.injEq] at H; obtain ⟨rfl, rfl⟩ := H; have hnb66 := NB185_0.out; have hnc66 := NB0_185.out; have hcz67 := Ext.cells18 BK185.out; have hfz67 := Ext.froz18 BK185.out
         go_wp2_with (first | ((with_reducible refine gate_callee (f := 44) rfl ?_); refine Ext.gs (some 76) rfl rfl Try.func44 #[.pointer (some ⟨g, 0, none⟩), .bool a1_9] rfl ?_; (with_reducible refine (reply_writer_flag.calls g t192 x1001_6 a1_9 t198 t199 w _ ?side1 ?side2 A46.out).mono ?_); (case side1 => refine IsS62.now (wF := wS) ?_; exact IsS62.go HI0.out); (case side2 => exact Ext.s2 GE185.out (IsS62.ge HI0.out) HB.out); rintro e w68 ⟨rfl, hi, hb⟩; refine ⟨_, rfl, ?_⟩; replace HB := Ext.a (hb); replace HI0 := Ext.a (IsS62.then (by exact IsS62.go HI0.out) hi); replace BK185 := Ext.a (IsS62.blk hi (by exact BK185.out) NB185_0.out (by decide)); (try clear hb hi); have hcz69 := Ext.cells18 BK185.out; have hfz69 := Ext.froz18 BK185.out) | ((with_reducible refine gate_callee (f := 45) rfl ?_); refine Ext.gs (some 81) rfl rfl Try.func45 #[.pointer (some ⟨g, 0, none⟩), .int .i64 (l1_10.length : Int)] rfl ?_; (with_reducible refine (reply_writer_count.calls kj27 g t198 t199 (l1_10.length : Int) false t201 t202 w _ ?side1 ?side2 A47.out).mono ?_); (case side1 => refine IsS62.now (wF := wS) ?_; exact IsS62.go HI0.out); (case side2 => exact Ext.s2 GE185.out (IsS62.ge HI0.out) HB.out); rintro e w70 ⟨rfl, hi, hb⟩; refine ⟨_, rfl, ?_⟩; replace HB := Ext.a (hb); replace HI0 := Ext.a (IsS62.then (by exact IsS62.go HI0.out) hi); replace BK185 := Ext.a (IsS62.blk hi (by exact BK185.out) NB185_0.out (by decide)); (try clear hb hi)))
         first | go_end0 | ((try simp only [Exit.inBlock, Exit.then]); refine bodyPost_ret (results_none rfl _ _ _) rfl ?_)
         exact ⟨by first | rfl | (simp [errW_none, errW_some] <;> rfl) | (simp [*, errW_none, errW_some] <;> rfl), by exact IsS62.go HI0.out, by exact Ext.s2 GE185.out (IsS62.ge HI0.out) HB.out⟩
       ·
        rw [if_neg c45] at H; obtain ⟨c45b0, c45b1⟩ := Ext.eF c45
        by_cases c71 : a1_0 = 6
        ·
         rw [if_pos c71] at H; obtain ⟨c71b0, c71b1⟩ := Ext.eT c71; clear c71; replace H := Option.bind_eq_some_iff.mp H; obtain ⟨⟨t207, t208⟩, A720, H⟩ := H; (try dsimp only at H); have A72 := Aside0.mk A720; clear A720; replace H := Option.bind_eq_some_iff.mp H; obtain ⟨⟨t209, t210⟩, A730, H⟩ := H; (try dsimp only at H); have A73 := Aside0.mk A730; clear A730; simp only [Option.some.injEq, Prod.mk.injEq] at H; obtain ⟨rfl, rfl⟩ := H; have hnb74 := NB185_0.out; have hnc74 := NB0_185.out; have hcz75 := Ext.cells18 BK185.out; have hfz75 := Ext.froz18 BK185.out
         go_wp2_with (first | ((with_reducible refine gate_callee (f := 42) rfl ?_); refine Ext.gs (some 98) rfl rfl Try.func42 #[.pointer (some ⟨g, 0, none⟩), .int .i64 a1_11] rfl ?_; (with_reducible refine (reply_writer_num.calls kj27 g t192 x1001_6 a1_11 t207 t208 w _ ?side1 ?side2 A72.out).mono ?_); (case side1 => refine IsS62.now (wF := wS) ?_; exact IsS62.go HI0.out); (case side2 => exact Ext.s2 GE185.out (IsS62.ge HI0.out) HB.out); rintro e w76 ⟨rfl, hi, hb⟩; refine ⟨_, rfl, ?_⟩; replace HB := Ext.a (hb); replace HI0 := Ext.a (IsS62.then (by exact IsS62.go HI0.out) hi); replace BK185 := Ext.a (IsS62.blk hi (by exact BK185.out) NB185_0.out (by decide)); (try clear hb hi); have hcz77 := Ext.cells18 BK185.out; have hfz77 := Ext.froz18 BK185.out) | ((with_reducible refine gate_callee (f := 42) rfl ?_); refine Ext.gs (some 102) rfl rfl Try.func42 #[.pointer (some ⟨g, 0, none⟩), .int .i64 a1_12] rfl ?_; (with_reducible refine (reply_writer_num.calls kj27 g t207 t208 a1_12 t209 t210 w _ ?side1 ?side2 A73.out).mono ?_); (case side1 => refine IsS62.now (wF := wS) ?_; exact IsS62.go HI0.out); (case side2 => exact Ext.s2 GE185.out (IsS62.ge HI0.out) HB.out); rintro e w78 ⟨rfl, hi, hb⟩; refine ⟨_, rfl, ?_⟩; replace HB := Ext.a (hb); replace HI0 := Ext.a (IsS62.then (by exact IsS62.go HI0.out) hi); replace BK185 := Ext.a (IsS62.blk hi (by exact BK185.out) NB185_0.out (by decide)); (try clear hb hi)))
         first | go_end0 | ((try simp only [Exit.inBlock, Exit.then]); refine bodyPost_ret (results_none rfl _ _ _) rfl ?_)
         exact ⟨by first | rfl | (simp [errW_none, errW_some] <;> rfl) | (simp [*, errW_none, errW_some] <;> rfl), by exact IsS62.go HI0.out, by exact Ext.s2 GE185.out (IsS62.ge HI0.out) HB.out⟩
        ·
         rw [if_neg c71] at H; obtain ⟨c71b0, c71b1⟩ := Ext.eF c71; have HC79 := Aside0.mk H; clear H
         go_upto_if 103 with (fail)
         go_cut [103] (fun v103 wc => ∃ (kq : Nat) (x103_78 : Bool), v103 = .bool x103_78 ∧ Aside0 (reply_writer_reply.j3 kq a1_0 x103_78 t192 x1001_6 a1_0 a1_1 a1_2 a1_3 l1_4 a1_5 a1_6 l1_7 a1_8 a1_9 l1_10 a1_11 a1_12 a1_13 l1_14 l1_15 a1_16 a1_17 = some (r1, r2)) ∧ Aside0 (kq ≤ kj27) ∧ Aside0 (wc.heap[gb185]? = some (.cells #[.int .i64 a1_0, .int .i64 a1_1, .int .i64 a1_2, .int .i64 a1_3, (.slice A1_4 l1_4.length c1_4), .int .i64 a1_5, .bool a1_6, (.slice A1_7 l1_7.length c1_7), .int .i64 a1_8, .bool a1_9, (.slice A1_10 l1_10.length c1_10), .int .i64 a1_11, .int .i64 a1_12, .int .i64 a1_13, (.slice A1_14 l1_14.length c1_14), (.slice A1_15 l1_15.length c1_15), .int .u32 a1_16, .int .i64 a1_17] 33 (0, 0))) ∧ Aside0 (IsS62 w wS wc g t192 x1001_6) ∧ Aside0 (Below w.heap.size w wc))
         case first =>
          have H := HC79.out; clear HC79
          by_cases c80 : a1_0 = 8
          case' _ =>
           rw [if_pos c80] at H; obtain ⟨c80b0, c80b1⟩ := Ext.eT c80; clear c80
           (first | rw [c80b0] | (simp only [i64_w, i32_w]; rw [c80b0]) | skip)
          rotate_left 1
          case' _ =>
           rw [if_neg c80] at H; obtain ⟨c80b0, c80b1⟩ := Ext.eF c80
           (first | rw [c80b0] | (simp only [i64_w, i32_w]; rw [c80b0]) | skip)
          all_goals (have H' := Aside0.mk H; clear H; go_wp2; go_meet; (case rel => exact ⟨_, _, (by first | rfl | (simp; done) | (simp [*]; done)), H', ⟨by have := HJ6.out; have := HJ27.out; first | omega | exact Nat.le_refl _⟩, ⟨by exact BK185.out⟩, ⟨by exact IsS62.go HI0.out⟩, ⟨by exact Ext.s2 GE185.out (IsS62.ge HI0.out) HB.out⟩⟩))
         case rest =>
          clear HC79; (try clear q2 hx2 c5 c6 p6 c7 c8 p20 q20 hx20 c45b0 c45b1 c55b0 c56b0 c57b0 c60 c61 p64 c66 c71b0 c71b1 c74 c80b0 c80b1 hcz62_0 hcz62_1 hcz62_2 hcz62_3 hcz62_4 hcz62_5 hcz64_0 hcz64_1 hcz64_2 hcz64_3 hcz64_4 hcz64_5 hcz67 hcz69 hcz75 hcz77 hfz62_0 hfz62_1 hfz62_2 hfz62_3 hfz62_4 hfz62_5 hfz64_0 hfz64_1 hfz64_2 hfz64_3 hfz64_4 hfz64_5 hfz67 hfz69 hfz75 hfz77 hx203_0 hx203_1 hx203_2 hx203_3 hx203_4 hx203_5 p203 q203); obtain ⟨kq, x103_78, rfl, HA, HJ78, BK185, HI0, HB⟩ := hcut; cases kq with
          | zero => exact absurd HA.out (by simp [reply_writer_reply.j3])
          | succ kj78 =>
           have H := HA.out; clear HA; simp only [reply_writer_reply.j3] at H
           by_cases c81 : x103_78 = true
           ·
            subst c81; rw [if_pos rfl] at H; replace H := Option.bind_eq_some_iff.mp H; obtain ⟨⟨t211, t212⟩, A820, H⟩ := H; (try dsimp only at H); have A82 := Aside0.mk A820; clear A820; replace H := Option.bind_eq_some_iff.mp H; obtain ⟨⟨t213, t214⟩, A830, H⟩ := H; (try dsimp only at H); have A83 := Aside0.mk A830; clear A830; replace H := Option.bind_eq_some_iff.mp H; obtain ⟨⟨t215, t216⟩, A840, H⟩ := H; (try dsimp only at H); have A84 := Aside0.mk A840; clear A840; simp only [Option.some.injEq, Prod.mk.injEq] at H; obtain ⟨rfl, rfl⟩ := H; have hnb85 := NB185_0.out; have hnc85 := NB0_185.out; have hcz86 := Ext.cells18 BK185.out; have hfz86 := Ext.froz18 BK185.out
            go_wp2_with (first | ((with_reducible refine gate_callee (f := 42) rfl ?_); refine Ext.gs (some 109) rfl rfl Try.func42 #[.pointer (some ⟨g, 0, none⟩), .int .i64 a1_11] rfl ?_; (with_reducible refine (reply_writer_num.calls kj78 g t192 x1001_6 a1_11 t211 t212 w _ ?side1 ?side2 A82.out).mono ?_); (case side1 => refine IsS62.now (wF := wS) ?_; exact IsS62.go HI0.out); (case side2 => exact Ext.s2 GE185.out (IsS62.ge HI0.out) HB.out); rintro e w87 ⟨rfl, hi, hb⟩; refine ⟨_, rfl, ?_⟩; replace HB := Ext.a (hb); replace HI0 := Ext.a (IsS62.then (by exact IsS62.go HI0.out) hi); replace BK185 := Ext.a (IsS62.blk hi (by exact BK185.out) NB185_0.out (by decide)); (try clear hb hi); have hcz88 := Ext.cells18 BK185.out; have hfz88 := Ext.froz18 BK185.out) | ((with_reducible refine gate_callee (f := 42) rfl ?_); refine Ext.gs (some 113) rfl rfl Try.func42 #[.pointer (some ⟨g, 0, none⟩), .int .i64 a1_12] rfl ?_; (with_reducible refine (reply_writer_num.calls kj78 g t211 t212 a1_12 t213 t214 w _ ?side1 ?side2 A83.out).mono ?_); (case side1 => refine IsS62.now (wF := wS) ?_; exact IsS62.go HI0.out); (case side2 => exact Ext.s2 GE185.out (IsS62.ge HI0.out) HB.out); rintro e w89 ⟨rfl, hi, hb⟩; refine ⟨_, rfl, ?_⟩; replace HB := Ext.a (hb); replace HI0 := Ext.a (IsS62.then (by exact IsS62.go HI0.out) hi); replace BK185 := Ext.a (IsS62.blk hi (by exact BK185.out) NB185_0.out (by decide)); (try clear hb hi); have hcz90 := Ext.cells18 BK185.out; have hfz90 := Ext.froz18 BK185.out) | ((with_reducible refine gate_callee (f := 44) rfl ?_); refine Ext.gs (some 117) rfl rfl Try.func44 #[.pointer (some ⟨g, 0, none⟩), .bool a1_9] rfl ?_; (with_reducible refine (reply_writer_flag.calls g t213 t214 a1_9 t215 t216 w _ ?side1 ?side2 A84.out).mono ?_); (case side1 => refine IsS62.now (wF := wS) ?_; exact IsS62.go HI0.out); (case side2 => exact Ext.s2 GE185.out (IsS62.ge HI0.out) HB.out); rintro e w91 ⟨rfl, hi, hb⟩; refine ⟨_, rfl, ?_⟩; replace HB := Ext.a (hb); replace HI0 := Ext.a (IsS62.then (by exact IsS62.go HI0.out) hi); replace BK185 := Ext.a (IsS62.blk hi (by exact BK185.out) NB185_0.out (by decide)); (try clear hb hi)))
            first | go_end0 | ((try simp only [Exit.inBlock, Exit.then]); refine bodyPost_ret (results_none rfl _ _ _) rfl ?_)
            exact ⟨by first | rfl | (simp [errW_none, errW_some] <;> rfl) | (simp [*, errW_none, errW_some] <;> rfl), by exact IsS62.go HI0.out, by exact Ext.s2 GE185.out (IsS62.ge HI0.out) HB.out⟩
           ·
            replace c81 := Bool.eq_false_iff.mpr c81; subst c81; rw [if_neg Bool.false_ne_true] at H
            by_cases c92 : a1_0 = 9
            ·
             rw [if_pos c92] at H; obtain ⟨c92b0, c92b1⟩ := Ext.eT c92; clear c92; replace H := Option.bind_eq_some_iff.mp H; obtain ⟨⟨t217, t218⟩, A930, H⟩ := H; (try dsimp only at H); have A93 := Aside0.mk A930; clear A930; replace H := Option.bind_eq_some_iff.mp H; obtain ⟨⟨t219, t220⟩, A940, H⟩ := H; (try dsimp only at H); have A94 := Aside0.mk A940; clear A940; replace H := Option.bind_eq_some_iff.mp H; obtain ⟨⟨t221, t222⟩, A950, H⟩ := H; (try dsimp only at H); have A95 := Aside0.mk A950; clear A950; replace H := Option.bind_eq_some_iff.mp H; obtain ⟨⟨t223, t224, t225⟩, A960, H⟩ := H; (try dsimp only at H); have A96 := Aside0.mk A960; clear A960
             by_cases c97 : t223 = true
             ·
              subst c97; rw [if_pos rfl] at H; have H' := Aside0.mk H; clear H; have hnb98 := NB185_0.out; have hnc98 := NB0_185.out; have hcz99 := Ext.cells18 BK185.out; have hfz99 := Ext.froz18 BK185.out
              go_wp2_with (first | ((with_reducible refine gate_callee (f := 42) rfl ?_); refine Ext.gs (some 123) rfl rfl Try.func42 #[.pointer (some ⟨g, 0, none⟩), .int .i64 a1_11] rfl ?_; (with_reducible refine (reply_writer_num.calls kj78 g t192 x1001_6 a1_11 t217 t218 w _ ?side1 ?side2 A93.out).mono ?_); (case side1 => refine IsS62.now (wF := wS) ?_; exact IsS62.go HI0.out); (case side2 => exact Ext.s2 GE185.out (IsS62.ge HI0.out) HB.out); rintro e w100 ⟨rfl, hi, hb⟩; refine ⟨_, rfl, ?_⟩; replace HB := Ext.a (hb); replace HI0 := Ext.a (IsS62.then (by exact IsS62.go HI0.out) hi); replace BK185 := Ext.a (IsS62.blk hi (by exact BK185.out) NB185_0.out (by decide)); (try clear hb hi); have hcz101 := Ext.cells18 BK185.out; have hfz101 := Ext.froz18 BK185.out) | ((with_reducible refine gate_callee (f := 42) rfl ?_); refine Ext.gs (some 127) rfl rfl Try.func42 #[.pointer (some ⟨g, 0, none⟩), .int .i64 a1_12] rfl ?_; (with_reducible refine (reply_writer_num.calls kj78 g t217 t218 a1_12 t219 t220 w _ ?side1 ?side2 A94.out).mono ?_); (case side1 => refine IsS62.now (wF := wS) ?_; exact IsS62.go HI0.out); (case side2 => exact Ext.s2 GE185.out (IsS62.ge HI0.out) HB.out); rintro e w102 ⟨rfl, hi, hb⟩; refine ⟨_, rfl, ?_⟩; replace HB := Ext.a (hb); replace HI0 := Ext.a (IsS62.then (by exact IsS62.go HI0.out) hi); replace BK185 := Ext.a (IsS62.blk hi (by exact BK185.out) NB185_0.out (by decide)); (try clear hb hi); have hcz103 := Ext.cells18 BK185.out; have hfz103 := Ext.froz18 BK185.out) | ((with_reducible refine gate_callee (f := 42) rfl ?_); refine Ext.gs (some 131) rfl rfl Try.func42 #[.pointer (some ⟨g, 0, none⟩), .int .i64 a1_13] rfl ?_; (with_reducible refine (reply_writer_num.calls kj78 g t219 t220 a1_13 t221 t222 w _ ?side1 ?side2 A95.out).mono ?_); (case side1 => refine IsS62.now (wF := wS) ?_; exact IsS62.go HI0.out); (case side2 => exact Ext.s2 GE185.out (IsS62.ge HI0.out) HB.out); rintro e w104 ⟨rfl, hi, hb⟩; refine ⟨_, rfl, ?_⟩; replace HB := Ext.a (hb); replace HI0 := Ext.a (IsS62.then (by exact IsS62.go HI0.out) hi); replace BK185 := Ext.a (IsS62.blk hi (by exact BK185.out) NB185_0.out (by decide)); (try clear hb hi); have hcz105 := Ext.cells18 BK185.out; have hfz105 := Ext.froz18 BK185.out) | ((with_reducible refine gate_callee (f := 45) rfl ?_); refine Ext.gs (some 136) rfl rfl Try.func45 #[.pointer (some ⟨g, 0, none⟩), .int .i64 (l1_15.length : Int)] rfl ?_; (with_reducible refine (reply_writer_count.calls kj78 g t221 t222 (l1_15.length : Int) true t224 t225 w _ ?side1 ?side2 A96.out).mono ?_); (case side1 => refine IsS62.now (wF := wS) ?_; exact IsS62.go HI0.out); (case side2 => exact Ext.s2 GE185.out (IsS62.ge HI0.out) HB.out); rintro e w106 ⟨rfl, hi, hb⟩; refine ⟨_, rfl, ?_⟩; replace HB := Ext.a (hb); replace HI0 := Ext.a (IsS62.then (by exact IsS62.go HI0.out) hi); replace BK185 := Ext.a (IsS62.blk hi (by exact BK185.out) NB185_0.out (by decide)); (try clear hb hi); have hcz107 := Ext.cells18 BK185.out; have hfz107 := Ext.froz18 BK185.out))
              go_loopg [140] kj78 (fun kq v140 w' => ∃ (x140_4 : Int) (x1000_4 : List Int) (x1001_4 : Bool), v140 = .int .i64 x140_4 ∧ Aside0 (reply_writer_reply.l1 kq l1_15 (l1_15.length : Int) x140_4 x1000_4 x1001_4 = some (r1, r2)) ∧ Aside0 (kq ≤ kj78) ∧ Aside0 (w'.heap[gb185]? = some (.cells #[.int .i64 a1_0, .int .i64 a1_1, .int .i64 a1_2, .int .i64 a1_3, (.slice A1_4 l1_4.length c1_4), .int .i64 a1_5, .bool a1_6, (.slice A1_7 l1_7.length c1_7), .int .i64 a1_8, .bool a1_9, (.slice A1_10 l1_10.length c1_10), .int .i64 a1_11, .int .i64 a1_12, .int .i64 a1_13, (.slice A1_14 l1_14.length c1_14), (.slice A1_15 l1_15.length c1_15), .int .u32 a1_16, .int .i64 a1_17] 33 (0, 0))) ∧ Aside0 (IsS62 w wS w' g x1000_4 x1001_4) ∧ Aside0 (Below w.heap.size w w'))
              case atStart => exact ⟨(0), (t224), (t225), (by first | rfl | (simp; done) | (simp [*]; done)), H', ⟨Nat.le_refl _⟩, ⟨by exact BK185.out⟩, ⟨by exact IsS62.go HI0.out⟩, ⟨by exact Ext.s2 GE185.out (IsS62.ge HI0.out) HB.out⟩⟩
              case round =>
               clear H'; (try clear c85 c92b0 c92b1 c98 hcz101 hcz103 hcz105 hcz107 hcz86 hcz88 hcz90 hcz99 hfz101 hfz103 hfz105 hfz107 hfz86 hfz88 hfz90 hfz99); obtain ⟨x140_4, x1000_4, x1001_4, rfl, HA, HK4, BK185, HI0, HB⟩ := hrel; cases gk with
               | zero => exact absurd HA.out (by simp [reply_writer_reply.l1])
               | succ k4 =>
                have H := HA.out; clear HA; simp only [reply_writer_reply.l1] at H
                by_cases c108 : x140_4 < (l1_15.length : Int)
                ·
                 rw [if_pos c108] at H; have c108b0 := decide_eq_true c108; clear c108
                 by_cases c109 : 0 ≤ x140_4
                 ·
                  rw [if_pos c109] at H; have c109b0 := decide_eq_true c109; clear c109
                  by_cases c110 : x140_4 < (l1_15.length : Int)
                  ·
                   rw [if_pos c110] at H; have c110b0 := decide_eq_true c110; clear c110; replace H := Option.bind_eq_some_iff.mp H; obtain ⟨⟨t227, t228⟩, A1110, H⟩ := H; (try dsimp only at H); have A111 := Aside0.mk A1110; clear A1110; have H' := Aside0.mk H; clear H; have p226 : 0 ≤ (x140_4 : Int) := of_decide_eq_true (by first | (with_reducible assumption) | assumption); have q226 : x140_4 < (l1_15.length : Int) := of_decide_eq_true (by first | (with_reducible assumption) | assumption); obtain ⟨ad226, A226_0, c226_0, e226, hx226_0, hl226_0, hi226_0⟩ := at_L1 HR1_15.out x140_4 p226 q226; cases e226; replace hx226_0 := (HB.out.cell (World.block_lt_of_cell? w _ hx226_0)).trans hx226_0; have HR226_0 := Aside0.mk hi226_0; have HC226_0 := Aside0.mk hl226_0; clear hi226_0 hl226_0; replace p226 := eq_true p226; replace q226 := eq_true q226
                   go_wp2_with (first | ((with_reducible refine gate_callee (f := 46) rfl ?_); refine Ext.gs (some 146) rfl rfl Try.func46 #[.pointer (some ⟨g, 0, none⟩), .slice A226_0 (rd_L1 l1_15 x140_4).length c226_0] rfl ?_; (with_reducible refine (reply_writer_text.calls k4 g x1000_4 x1001_4 _ _ (rd_L1 l1_15 x140_4) t227 t228 w _ ?side1 ?side2 ?side3 ?side4 A111.out).mono ?_); (case side1 => refine IsS62.now (wF := wS) ?_; exact IsS62.go HI0.out); (case side2 => exact Ext.s2 GE185.out (IsS62.ge HI0.out) HB.out); (case side3 => exact HR226_0.out); (case side4 => exact HC226_0.out); rintro e w112 ⟨rfl, hi, hb⟩; refine ⟨_, rfl, ?_⟩; replace HB := Ext.a (hb); replace HI0 := Ext.a (IsS62.then (by exact IsS62.go HI0.out) hi); replace BK185 := Ext.a (IsS62.blk hi (by exact BK185.out) NB185_0.out (by decide)); (try clear hb hi)))
                   go_roundg k4
                   case measure => have := HJ6.out; have := HJ27.out; have := HJ78.out; have := HK4.out; omega
                   case rel => exact ⟨(wrap64 (x140_4 + 1)), (t227), (t228), (by first | rfl | (simp; done) | (simp [*]; done)), H', ⟨by have := HJ6.out; have := HJ27.out; have := HJ78.out; have := HK4.out; omega⟩, ⟨by exact BK185.out⟩, ⟨by exact IsS62.go HI0.out⟩, ⟨by exact Ext.s2 GE185.out (IsS62.ge HI0.out) HB.out⟩⟩
                  · rw [if_neg c110] at H; exact absurd H (by simp)
                 · rw [if_neg c109] at H; exact absurd H (by simp)
                ·
                 rw [if_neg c108] at H; have c108b0 := decide_eq_false c108; clear c108; simp only [Option.some.injEq, Prod.mk.injEq] at H; obtain ⟨rfl, rfl⟩ := H
                 go_wp2
                 first | go_end0 | ((try simp only [Exit.inBlock, Exit.then]); refine bodyPost_ret (results_none rfl _ _ _) rfl ?_)
                 exact ⟨by first | rfl | (simp [errW_none, errW_some] <;> rfl) | (simp [*, errW_none, errW_some] <;> rfl), by exact IsS62.go HI0.out, by exact Ext.s2 GE185.out (IsS62.ge HI0.out) HB.out⟩
             ·
              replace c97 := Bool.eq_false_iff.mpr c97; subst c97; rw [if_neg Bool.false_ne_true] at H; simp only [Option.some.injEq, Prod.mk.injEq] at H; obtain ⟨rfl, rfl⟩ := H; have hnb113 := NB185_0.out; have hnc113 := NB0_185.out; have hcz114 := Ext.cells18 BK185.out; have hfz114 := Ext.froz18 BK185.out
              go_wp2_with (first | ((with_reducible refine gate_callee (f := 42) rfl ?_); refine Ext.gs (some 123) rfl rfl Try.func42 #[.pointer (some ⟨g, 0, none⟩), .int .i64 a1_11] rfl ?_; (with_reducible refine (reply_writer_num.calls kj78 g t192 x1001_6 a1_11 t217 t218 w _ ?side1 ?side2 A93.out).mono ?_); (case side1 => refine IsS62.now (wF := wS) ?_; exact IsS62.go HI0.out); (case side2 => exact Ext.s2 GE185.out (IsS62.ge HI0.out) HB.out); rintro e w115 ⟨rfl, hi, hb⟩; refine ⟨_, rfl, ?_⟩; replace HB := Ext.a (hb); replace HI0 := Ext.a (IsS62.then (by exact IsS62.go HI0.out) hi); replace BK185 := Ext.a (IsS62.blk hi (by exact BK185.out) NB185_0.out (by decide)); (try clear hb hi); have hcz116 := Ext.cells18 BK185.out; have hfz116 := Ext.froz18 BK185.out) | ((with_reducible refine gate_callee (f := 42) rfl ?_); refine Ext.gs (some 127) rfl rfl Try.func42 #[.pointer (some ⟨g, 0, none⟩), .int .i64 a1_12] rfl ?_; (with_reducible refine (reply_writer_num.calls kj78 g t217 t218 a1_12 t219 t220 w _ ?side1 ?side2 A94.out).mono ?_); (case side1 => refine IsS62.now (wF := wS) ?_; exact IsS62.go HI0.out); (case side2 => exact Ext.s2 GE185.out (IsS62.ge HI0.out) HB.out); rintro e w117 ⟨rfl, hi, hb⟩; refine ⟨_, rfl, ?_⟩; replace HB := Ext.a (hb); replace HI0 := Ext.a (IsS62.then (by exact IsS62.go HI0.out) hi); replace BK185 := Ext.a (IsS62.blk hi (by exact BK185.out) NB185_0.out (by decide)); (try clear hb hi); have hcz118 := Ext.cells18 BK185.out; have hfz118 := Ext.froz18 BK185.out) | ((with_reducible refine gate_callee (f := 42) rfl ?_); refine Ext.gs (some 131) rfl rfl Try.func42 #[.pointer (some ⟨g, 0, none⟩), .int .i64 a1_13] rfl ?_; (with_reducible refine (reply_writer_num.calls kj78 g t219 t220 a1_13 t221 t222 w _ ?side1 ?side2 A95.out).mono ?_); (case side1 => refine IsS62.now (wF := wS) ?_; exact IsS62.go HI0.out); (case side2 => exact Ext.s2 GE185.out (IsS62.ge HI0.out) HB.out); rintro e w119 ⟨rfl, hi, hb⟩; refine ⟨_, rfl, ?_⟩; replace HB := Ext.a (hb); replace HI0 := Ext.a (IsS62.then (by exact IsS62.go HI0.out) hi); replace BK185 := Ext.a (IsS62.blk hi (by exact BK185.out) NB185_0.out (by decide)); (try clear hb hi); have hcz120 := Ext.cells18 BK185.out; have hfz120 := Ext.froz18 BK185.out) | ((with_reducible refine gate_callee (f := 45) rfl ?_); refine Ext.gs (some 136) rfl rfl Try.func45 #[.pointer (some ⟨g, 0, none⟩), .int .i64 (l1_15.length : Int)] rfl ?_; (with_reducible refine (reply_writer_count.calls kj78 g t221 t222 (l1_15.length : Int) false t224 t225 w _ ?side1 ?side2 A96.out).mono ?_); (case side1 => refine IsS62.now (wF := wS) ?_; exact IsS62.go HI0.out); (case side2 => exact Ext.s2 GE185.out (IsS62.ge HI0.out) HB.out); rintro e w121 ⟨rfl, hi, hb⟩; refine ⟨_, rfl, ?_⟩; replace HB := Ext.a (hb); replace HI0 := Ext.a (IsS62.then (by exact IsS62.go HI0.out) hi); replace BK185 := Ext.a (IsS62.blk hi (by exact BK185.out) NB185_0.out (by decide)); (try clear hb hi)))
              first | go_end0 | ((try simp only [Exit.inBlock, Exit.then]); refine bodyPost_ret (results_none rfl _ _ _) rfl ?_)
              exact ⟨by first | rfl | (simp [errW_none, errW_some] <;> rfl) | (simp [*, errW_none, errW_some] <;> rfl), by exact IsS62.go HI0.out, by exact Ext.s2 GE185.out (IsS62.ge HI0.out) HB.out⟩
            ·
             rw [if_neg c92] at H; obtain ⟨c92b0, c92b1⟩ := Ext.eF c92
             by_cases c122 : a1_0 = 10
             ·
              rw [if_pos c122] at H; obtain ⟨c122b0, c122b1⟩ := Ext.eT c122; clear c122; replace H := Option.bind_eq_some_iff.mp H; obtain ⟨⟨t229, t230, t231⟩, A1230, H⟩ := H; (try dsimp only at H); have A123 := Aside0.mk A1230; clear A1230
              by_cases c124 : t229 = true
              ·
               subst c124; rw [if_pos rfl] at H; have H' := Aside0.mk H; clear H; have hnb125 := NB185_0.out; have hnc125 := NB0_185.out; have hcz126 := Ext.cells18 BK185.out; have hfz126 := Ext.froz18 BK185.out
               go_wp2_with (first | ((with_reducible refine gate_callee (f := 45) rfl ?_); refine Ext.gs (some 154) rfl rfl Try.func45 #[.pointer (some ⟨g, 0, none⟩), .int .i64 (l1_14.length : Int)] rfl ?_; (with_reducible refine (reply_writer_count.calls kj78 g t192 x1001_6 (l1_14.length : Int) true t230 t231 w _ ?side1 ?side2 A123.out).mono ?_); (case side1 => refine IsS62.now (wF := wS) ?_; exact IsS62.go HI0.out); (case side2 => exact Ext.s2 GE185.out (IsS62.ge HI0.out) HB.out); rintro e w127 ⟨rfl, hi, hb⟩; refine ⟨_, rfl, ?_⟩; replace HB := Ext.a (hb); replace HI0 := Ext.a (IsS62.then (by exact IsS62.go HI0.out) hi); replace BK185 := Ext.a (IsS62.blk hi (by exact BK185.out) NB185_0.out (by decide)); (try clear hb hi); have hcz128 := Ext.cells18 BK185.out; have hfz128 := Ext.froz18 BK185.out))
               go_loopg [158] kj78 (fun kq v158 w' => ∃ (x158_4 : Int) (x1000_4 : List Int) (x1001_4 : Bool), v158 = .int .i64 x158_4 ∧ Aside0 (reply_writer_reply.l2 kq l1_14 (l1_14.length : Int) x158_4 x1000_4 x1001_4 = some (r1, r2)) ∧ Aside0 (kq ≤ kj78) ∧ Aside0 (w'.heap[gb185]? = some (.cells #[.int .i64 a1_0, .int .i64 a1_1, .int .i64 a1_2, .int .i64 a1_3, (.slice A1_4 l1_4.length c1_4), .int .i64 a1_5, .bool a1_6, (.slice A1_7 l1_7.length c1_7), .int .i64 a1_8, .bool a1_9, (.slice A1_10 l1_10.length c1_10), .int .i64 a1_11, .int .i64 a1_12, .int .i64 a1_13, (.slice A1_14 l1_14.length c1_14), (.slice A1_15 l1_15.length c1_15), .int .u32 a1_16, .int .i64 a1_17] 33 (0, 0))) ∧ Aside0 (IsS62 w wS w' g x1000_4 x1001_4) ∧ Aside0 (Below w.heap.size w w'))
               case atStart => exact ⟨(0), (t230), (t231), (by first | rfl | (simp; done) | (simp [*]; done)), H', ⟨Nat.le_refl _⟩, ⟨by exact BK185.out⟩, ⟨by exact IsS62.go HI0.out⟩, ⟨by exact Ext.s2 GE185.out (IsS62.ge HI0.out) HB.out⟩⟩
               case round =>
                clear H'; (try clear c10 c11 c12 p22 q22 hx22 c46 c92b0 c92b1 c108b0 c109b0 c110b0 c113 c122b0 c122b1 c125 hcz114 hcz116 hcz118 hcz120 hcz126 hcz128 hfz114 hfz116 hfz118 hfz120 hfz126 hfz128 hx226_0 p226 q226); obtain ⟨x158_4, x1000_4, x1001_4, rfl, HA, HK4, BK185, HI0, HB⟩ := hrel; cases gk with
                | zero => exact absurd HA.out (by simp [reply_writer_reply.l2])
                | succ k4 =>
                 have H := HA.out; clear HA; simp only [reply_writer_reply.l2] at H
                 by_cases c129 : x158_4 < (l1_14.length : Int)
                 ·
                  rw [if_pos c129] at H; have c129b0 := decide_eq_true c129; clear c129
                  by_cases c130 : 0 ≤ x158_4
                  ·
                   rw [if_pos c130] at H; have c130b0 := decide_eq_true c130; clear c130
                   by_cases c131 : x158_4 < (l1_14.length : Int)
                   ·
                    rw [if_pos c131] at H; have c131b0 := decide_eq_true c131; clear c131; replace H := Option.bind_eq_some_iff.mp H; obtain ⟨⟨t233, t234⟩, A1320, H⟩ := H; (try dsimp only at H); have A132 := Aside0.mk A1320; clear A1320; have H' := Aside0.mk H; clear H; have p232 : 0 ≤ (x158_4 : Int) := of_decide_eq_true (by first | (with_reducible assumption) | assumption); have q232 : x158_4 < (l1_14.length : Int) := of_decide_eq_true (by first | (with_reducible assumption) | assumption); obtain ⟨ad232, e232, hx232_0⟩ := Kd.at_int HR1_14.out x158_4 p232 q232; cases e232; replace hx232_0 := (HB.out.cell (World.block_lt_of_cell? w _ hx232_0)).trans hx232_0; replace p232 := eq_true p232; replace q232 := eq_true q232
                    go_wp2_with (first | ((with_reducible refine gate_callee (f := 42) rfl ?_); refine Ext.gs (some 164) rfl rfl Try.func42 #[.pointer (some ⟨g, 0, none⟩), .int .i64 (rd l1_14 x158_4)] rfl ?_; (with_reducible refine (reply_writer_num.calls k4 g x1000_4 x1001_4 (rd l1_14 x158_4) t233 t234 w _ ?side1 ?side2 A132.out).mono ?_); (case side1 => refine IsS62.now (wF := wS) ?_; exact IsS62.go HI0.out); (case side2 => exact Ext.s2 GE185.out (IsS62.ge HI0.out) HB.out); rintro e w133 ⟨rfl, hi, hb⟩; refine ⟨_, rfl, ?_⟩; replace HB := Ext.a (hb); replace HI0 := Ext.a (IsS62.then (by exact IsS62.go HI0.out) hi); replace BK185 := Ext.a (IsS62.blk hi (by exact BK185.out) NB185_0.out (by decide)); (try clear hb hi)))
                    go_roundg k4
                    case measure => have := HJ6.out; have := HJ27.out; have := HJ78.out; have := HK4.out; omega
                    case rel => exact ⟨(wrap64 (x158_4 + 1)), (t233), (t234), (by first | rfl | (simp; done) | (simp [*]; done)), H', ⟨by have := HJ6.out; have := HJ27.out; have := HJ78.out; have := HK4.out; omega⟩, ⟨by exact BK185.out⟩, ⟨by exact IsS62.go HI0.out⟩, ⟨by exact Ext.s2 GE185.out (IsS62.ge HI0.out) HB.out⟩⟩
                   · rw [if_neg c131] at H; exact absurd H (by simp)
                  · rw [if_neg c130] at H; exact absurd H (by simp)
                 ·
                  rw [if_neg c129] at H; have c129b0 := decide_eq_false c129; clear c129; simp only [Option.some.injEq, Prod.mk.injEq] at H; obtain ⟨rfl, rfl⟩ := H
                  go_wp2
                  first | go_end0 | ((try simp only [Exit.inBlock, Exit.then]); refine bodyPost_ret (results_none rfl _ _ _) rfl ?_)
                  exact ⟨by first | rfl | (simp [errW_none, errW_some] <;> rfl) | (simp [*, errW_none, errW_some] <;> rfl), by exact IsS62.go HI0.out, by exact Ext.s2 GE185.out (IsS62.ge HI0.out) HB.out⟩
              ·
               replace c124 := Bool.eq_false_iff.mpr c124; subst c124; rw [if_neg Bool.false_ne_true] at H; simp only [Option.some.injEq, Prod.mk.injEq] at H; obtain ⟨rfl, rfl⟩ := H; have hnb134 := NB185_0.out; have hnc134 := NB0_185.out; have hcz135 := Ext.cells18 BK185.out; have hfz135 := Ext.froz18 BK185.out
               go_wp2_with (first | ((with_reducible refine gate_callee (f := 45) rfl ?_); refine Ext.gs (some 154) rfl rfl Try.func45 #[.pointer (some ⟨g, 0, none⟩), .int .i64 (l1_14.length : Int)] rfl ?_; (with_reducible refine (reply_writer_count.calls kj78 g t192 x1001_6 (l1_14.length : Int) false t230 t231 w _ ?side1 ?side2 A123.out).mono ?_); (case side1 => refine IsS62.now (wF := wS) ?_; exact IsS62.go HI0.out); (case side2 => exact Ext.s2 GE185.out (IsS62.ge HI0.out) HB.out); rintro e w136 ⟨rfl, hi, hb⟩; refine ⟨_, rfl, ?_⟩; replace HB := Ext.a (hb); replace HI0 := Ext.a (IsS62.then (by exact IsS62.go HI0.out) hi); replace BK185 := Ext.a (IsS62.blk hi (by exact BK185.out) NB185_0.out (by decide)); (try clear hb hi)))
               first | go_end0 | ((try simp only [Exit.inBlock, Exit.then]); refine bodyPost_ret (results_none rfl _ _ _) rfl ?_)
               exact ⟨by first | rfl | (simp [errW_none, errW_some] <;> rfl) | (simp [*, errW_none, errW_some] <;> rfl), by exact IsS62.go HI0.out, by exact Ext.s2 GE185.out (IsS62.ge HI0.out) HB.out⟩
             ·
              rw [if_neg c122] at H; obtain ⟨c122b0, c122b1⟩ := Ext.eF c122
              by_cases c137 : a1_0 = 11
              ·
               rw [if_pos c137] at H; obtain ⟨c137b0, c137b1⟩ := Ext.eT c137; clear c137; replace H := Option.bind_eq_some_iff.mp H; obtain ⟨⟨t235, t236⟩, A1380, H⟩ := H; (try dsimp only at H); have A138 := Aside0.mk A1380; clear A1380; simp only [Option.some.injEq, Prod.mk.injEq] at H; obtain ⟨rfl, rfl⟩ := H; have hnb139 := NB185_0.out; have hnc139 := NB0_185.out; have hcz140 := Ext.cells18 BK185.out; have hfz140 := Ext.froz18 BK185.out
               go_wp2_with (first | ((with_reducible refine gate_callee (f := 42) rfl ?_); refine Ext.gs (some 171) rfl rfl Try.func42 #[.pointer (some ⟨g, 0, none⟩), .int .i64 a1_11] rfl ?_; (with_reducible refine (reply_writer_num.calls kj78 g t192 x1001_6 a1_11 t235 t236 w _ ?side1 ?side2 A138.out).mono ?_); (case side1 => refine IsS62.now (wF := wS) ?_; exact IsS62.go HI0.out); (case side2 => exact Ext.s2 GE185.out (IsS62.ge HI0.out) HB.out); rintro e w141 ⟨rfl, hi, hb⟩; refine ⟨_, rfl, ?_⟩; replace HB := Ext.a (hb); replace HI0 := Ext.a (IsS62.then (by exact IsS62.go HI0.out) hi); replace BK185 := Ext.a (IsS62.blk hi (by exact BK185.out) NB185_0.out (by decide)); (try clear hb hi)))
               first | go_end0 | ((try simp only [Exit.inBlock, Exit.then]); refine bodyPost_ret (results_none rfl _ _ _) rfl ?_)
               exact ⟨by first | rfl | (simp [errW_none, errW_some] <;> rfl) | (simp [*, errW_none, errW_some] <;> rfl), by exact IsS62.go HI0.out, by exact Ext.s2 GE185.out (IsS62.ge HI0.out) HB.out⟩
              ·
               rw [if_neg c137] at H; obtain ⟨c137b0, c137b1⟩ := Ext.eF c137
               by_cases c142 : a1_0 = 14
               ·
                rw [if_pos c142] at H; obtain ⟨c142b0, c142b1⟩ := Ext.eT c142; clear c142; replace H := Option.bind_eq_some_iff.mp H; obtain ⟨⟨t237, t238⟩, A1430, H⟩ := H; (try dsimp only at H); have A143 := Aside0.mk A1430; clear A1430; simp only [Option.some.injEq, Prod.mk.injEq] at H; obtain ⟨rfl, rfl⟩ := H; have hnb144 := NB185_0.out; have hnc144 := NB0_185.out; have hcz145 := Ext.cells18 BK185.out; have hfz145 := Ext.froz18 BK185.out
                go_wp2_with (first | ((with_reducible refine gate_callee (f := 47) rfl ?_); refine Ext.gs (some 178) rfl rfl Try.func47 #[.pointer (some ⟨g, 0, none⟩), .int .u64 (IntKind.u64.wrap (a1_16)), .int .i64 4] rfl ?_; (with_reducible refine (reply_writer_put.calls kj78 g t192 x1001_6 (IntKind.u64.wrap (a1_16)) 4 t237 t238 w _ ?side1 ?side2 A143.out).mono ?_); (case side1 => refine IsS62.now (wF := wS) ?_; exact IsS62.go HI0.out); (case side2 => exact Ext.s2 GE185.out (IsS62.ge HI0.out) HB.out); rintro e w146 ⟨rfl, hi, hb⟩; refine ⟨_, rfl, ?_⟩; replace HB := Ext.a (hb); replace HI0 := Ext.a (IsS62.then (by exact IsS62.go HI0.out) hi); replace BK185 := Ext.a (IsS62.blk hi (by exact BK185.out) NB185_0.out (by decide)); (try clear hb hi)))
                first | go_end0 | ((try simp only [Exit.inBlock, Exit.then]); refine bodyPost_ret (results_none rfl _ _ _) rfl ?_)
                exact ⟨by first | rfl | (simp [errW_none, errW_some] <;> rfl) | (simp [*, errW_none, errW_some] <;> rfl), by exact IsS62.go HI0.out, by exact Ext.s2 GE185.out (IsS62.ge HI0.out) HB.out⟩
               ·
                rw [if_neg c142] at H; obtain ⟨c142b0, c142b1⟩ := Ext.eF c142
                by_cases c147 : a1_0 = 15
                ·
                 rw [if_pos c147] at H; obtain ⟨c147b0, c147b1⟩ := Ext.eT c147; clear c147; replace H := Option.bind_eq_some_iff.mp H; obtain ⟨⟨t239, t240⟩, A1480, H⟩ := H; (try dsimp only at H); have A148 := Aside0.mk A1480; clear A1480; replace H := Option.bind_eq_some_iff.mp H; obtain ⟨⟨t241, t242⟩, A1490, H⟩ := H; (try dsimp only at H); have A149 := Aside0.mk A1490; clear A1490; simp only [Option.some.injEq, Prod.mk.injEq] at H; obtain ⟨rfl, rfl⟩ := H; have hnb150 := NB185_0.out; have hnc150 := NB0_185.out; have hcz151 := Ext.cells18 BK185.out; have hfz151 := Ext.froz18 BK185.out
                 go_wp2_with (first | ((with_reducible refine gate_callee (f := 42) rfl ?_); refine Ext.gs (some 184) rfl rfl Try.func42 #[.pointer (some ⟨g, 0, none⟩), .int .i64 a1_12] rfl ?_; (with_reducible refine (reply_writer_num.calls kj78 g t192 x1001_6 a1_12 t239 t240 w _ ?side1 ?side2 A148.out).mono ?_); (case side1 => refine IsS62.now (wF := wS) ?_; exact IsS62.go HI0.out); (case side2 => exact Ext.s2 GE185.out (IsS62.ge HI0.out) HB.out); rintro e w152 ⟨rfl, hi, hb⟩; refine ⟨_, rfl, ?_⟩; replace HB := Ext.a (hb); replace HI0 := Ext.a (IsS62.then (by exact IsS62.go HI0.out) hi); replace BK185 := Ext.a (IsS62.blk hi (by exact BK185.out) NB185_0.out (by decide)); (try clear hb hi); have hcz153 := Ext.cells18 BK185.out; have hfz153 := Ext.froz18 BK185.out) | ((with_reducible refine gate_callee (f := 42) rfl ?_); refine Ext.gs (some 188) rfl rfl Try.func42 #[.pointer (some ⟨g, 0, none⟩), .int .i64 a1_13] rfl ?_; (with_reducible refine (reply_writer_num.calls kj78 g t239 t240 a1_13 t241 t242 w _ ?side1 ?side2 A149.out).mono ?_); (case side1 => refine IsS62.now (wF := wS) ?_; exact IsS62.go HI0.out); (case side2 => exact Ext.s2 GE185.out (IsS62.ge HI0.out) HB.out); rintro e w154 ⟨rfl, hi, hb⟩; refine ⟨_, rfl, ?_⟩; replace HB := Ext.a (hb); replace HI0 := Ext.a (IsS62.then (by exact IsS62.go HI0.out) hi); replace BK185 := Ext.a (IsS62.blk hi (by exact BK185.out) NB185_0.out (by decide)); (try clear hb hi)))
                 first | go_end0 | ((try simp only [Exit.inBlock, Exit.then]); refine bodyPost_ret (results_none rfl _ _ _) rfl ?_)
                 exact ⟨by first | rfl | (simp [errW_none, errW_some] <;> rfl) | (simp [*, errW_none, errW_some] <;> rfl), by exact IsS62.go HI0.out, by exact Ext.s2 GE185.out (IsS62.ge HI0.out) HB.out⟩
                ·
                 rw [if_neg c147] at H; obtain ⟨c147b0, c147b1⟩ := Ext.eF c147; simp only [Option.some.injEq, Prod.mk.injEq] at H; obtain ⟨rfl, rfl⟩ := H
                 go_wp2
                 first | go_end0 | ((try simp only [Exit.inBlock, Exit.then]); refine bodyPost_ret (results_none rfl _ _ _) rfl ?_)
                 exact ⟨by first | rfl | (simp [errW_none, errW_some] <;> rfl) | (simp [*, errW_none, errW_some] <;> rfl), by exact IsS62.go HI0.out, by exact Ext.s2 GE185.out (IsS62.ge HI0.out) HB.out⟩
   ·
    rw [if_neg c27] at H; obtain ⟨c27b0, c27b1⟩ := Ext.eF c27; simp only [Option.some.injEq, Prod.mk.injEq] at H; obtain ⟨rfl, rfl⟩ := H; have hnb155 := NB185_0.out; have hnc155 := NB0_185.out; have hcz156 := Ext.cells18 BK185.out; have hfz156 := Ext.froz18 BK185.out
    go_wp2
    first | go_end0 | ((try simp only [Exit.inBlock, Exit.then]); refine bodyPost_ret (results_none rfl _ _ _) rfl ?_)
    exact ⟨by first | rfl | (simp [errW_none, errW_some] <;> rfl) | (simp [*, errW_none, errW_some] <;> rfl), by exact IsS62.go HI0.out, by exact Ext.s2 GE185.out (IsS62.ge HI0.out) HB.out⟩

end Go.Proofs.Ytlhjdmpclfhoeaa.PC
