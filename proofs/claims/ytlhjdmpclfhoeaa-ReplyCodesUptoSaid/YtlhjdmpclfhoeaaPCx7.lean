-- Written by wip/printx.py, a program of this work over the kit's print, for this claim.
import Derived.Test.YtlhjdmpclfhoeaaPCx0
import Derived.Test.YtlhjdmpclfhoeaaPCx6
import Derived.Test.YtlhjdmpclfhoeaaAlo
namespace Go.Proofs.Ytlhjdmpclfhoeaa.PC
open Go.RowKit Go.Proofs.YtlhjdmpclfhoeaaW.PrintWords Go.Proofs.YtlhjdmpclfhoeaaW.PrintLast Go.Proofs.YtlhjdmpclfhoeaaW.PrintMore
attribute [local go_sem] max2_int min2_int max_two min_two max_three min_three max_four min_four   -- for this text's walks alone
attribute [local go_sem] Ext.pick_u8 Ext.pick_u32 Ext.pick_u64
set_option linter.unusedVariables false
set_option linter.unusedSimpArgs false



/-! ### reply_alone: function 23 -/
mutual
def reply_alone.j0 : Nat → Int → Int → Int → Int → Int → List (S79) → Int → Bool → List (S79) → Int → Bool → List (S27) → Int → Int → Int → List Int → List (List Int) → Int → Int → Option (Bool)
 | 0, _, _, _, _, _, _, _, _, _, _, _, _, _, _, _, _, _, _, _ => none
 | k + 1, x3, x246000, x246001, x246002, x246003, x246004, x246005, x246006, x246007, x246008, x246009, x246010, x246011, x246012, x246013, x246014, x246015, x246016, x246017 => reply_alone.l0 k x3 x246010 (x246010.length : Int) 0 x246000 x246001 x246002 x246003 x246004 x246005 x246006 x246007 x246008 x246009 x246010 x246011 x246012 x246013 x246014 x246015 x246016 x246017
def reply_alone.l0 : Nat → Int → List (S27) → Int → Int → Int → Int → Int → Int → List (S79) → Int → Bool → List (S79) → Int → Bool → List (S27) → Int → Int → Int → List Int → List (List Int) → Int → Int → Option (Bool)
 | 0, _, _, _, _, _, _, _, _, _, _, _, _, _, _, _, _, _, _, _, _, _, _ => none
 | k + 1, x3, x14, x15, x16, x246000, x246001, x246002, x246003, x246004, x246005, x246006, x246007, x246008, x246009, x246010, x246011, x246012, x246013, x246014, x246015, x246016, x246017 => if x16 < x15 then (if 0 ≤ x16 then (if x16 < (x14.length : Int) then ((reply_toldAlone.f ((rd_T27 x14 x16).f0) ((rd_T27 x14 x16).f1.f0) ((rd_T27 x14 x16).f1.f1) ((rd_T27 x14 x16).f1.f2) ((rd_T27 x14 x16).f2) ((rd_T27 x14 x16).f3)).bind fun t248 => (if t248 = true then (reply_alone.l0 k x3 x14 x15 (wrap64 (x16 + 1)) x246000 x246001 x246002 x246003 x246004 x246005 x246006 x246007 x246008 x246009 x246010 x246011 x246012 x246013 x246014 x246015 x246016 x246017) else (some false))) else (none)) else (none)) else (if x3 = 1 then ((reply_toldAlone.f x246003 x246004 x246005 x246006 x246007 x246008).bind fun t249 => (if t249 = true then (if (x246010.length : Int) = 0 then (if x246009 = true then (some false) else (if x246011 = 0 then (if x246012 = 0 then (if x246013 = 0 then (if (x246015.length : Int) = 0 then (if (x246014.length : Int) = 0 then (some (x246016 == 0)) else (some false)) else (some false)) else (some false)) else (some false)) else (some false))) else (some false)) else (some false))) else (if x3 = 2 then ((reply_toldAlone.f x246003 x246004 x246005 x246006 x246007 x246008).bind fun t250 => (if t250 = true then (if (x246010.length : Int) = 0 then (if x246009 = true then (some false) else (if x246011 = 0 then (if x246012 = 0 then (if x246013 = 0 then (if (x246015.length : Int) = 0 then (if (x246014.length : Int) = 0 then (some (x246016 == 0)) else (some false)) else (some false)) else (some false)) else (some false)) else (some false))) else (some false)) else (some false))) else (if x3 = 6 then ((reply_noTold.f x246003 x246004 x246005 x246006 x246007 x246008).bind fun t251 => (if t251 = true then (if (x246010.length : Int) = 0 then (if x246009 = true then (some false) else (if x246013 = 0 then (if (x246015.length : Int) = 0 then (if (x246014.length : Int) = 0 then (some (x246016 == 0)) else (some false)) else (some false)) else (some false))) else (some false)) else (some false))) else (if x3 = 8 then ((reply_noTold.f x246003 x246004 x246005 x246006 x246007 x246008).bind fun t252 => (if t252 = true then (if (x246010.length : Int) = 0 then (if x246013 = 0 then (if (x246015.length : Int) = 0 then (if (x246014.length : Int) = 0 then (some (x246016 == 0)) else (some false)) else (some false)) else (some false)) else (some false)) else (some false))) else (if x3 = 13 then ((reply_noTold.f x246003 x246004 x246005 x246006 x246007 x246008).bind fun t253 => (if t253 = true then (if (x246010.length : Int) = 0 then (if x246013 = 0 then (if (x246015.length : Int) = 0 then (if (x246014.length : Int) = 0 then (some (x246016 == 0)) else (some false)) else (some false)) else (some false)) else (some false)) else (some false))) else (if x3 = 3 then ((reply_toldAlone.f x246003 x246004 x246005 x246006 x246007 x246008).bind fun t254 => (if t254 = true then (if (x246010.length : Int) = 0 then (if x246009 = true then (some false) else (if x246011 = 0 then (if x246012 = 0 then (if x246013 = 0 then (if (x246015.length : Int) = 0 then (if (x246014.length : Int) = 0 then (some (x246016 == 0)) else (some false)) else (some false)) else (some false)) else (some false)) else (some false))) else (some false)) else (some false))) else ((reply_noTold.f x246003 x246004 x246005 x246006 x246007 x246008).bind fun t255 => (if t255 = true then (if x3 = 4 then (if x246011 = 0 then (if x246012 = 0 then (if x246013 = 0 then (if (x246015.length : Int) = 0 then (if (x246014.length : Int) = 0 then (some (x246016 == 0)) else (some false)) else (some false)) else (some false)) else (some false)) else (some false)) else (if (x246010.length : Int) = 0 then (if x246009 = true then (some false) else (if x3 = 9 then (if (x246014.length : Int) = 0 then (some (x246016 == 0)) else (some false)) else (if x3 = 11 then (if x246012 = 0 then (if x246013 = 0 then (if (x246015.length : Int) = 0 then (if (x246014.length : Int) = 0 then (some (x246016 == 0)) else (some false)) else (some false)) else (some false)) else (some false)) else (if x246011 = 0 then (if x3 = 15 then (if (x246015.length : Int) = 0 then (if (x246014.length : Int) = 0 then (some (x246016 == 0)) else (some false)) else (some false)) else (if x246012 = 0 then (if x246013 = 0 then (if (x246015.length : Int) = 0 then (if x3 = 10 then (some (x246016 == 0)) else (if (x246014.length : Int) = 0 then (if x3 = 14 then (some true) else (some (x246016 == 0))) else (some false))) else (some false)) else (some false)) else (some false))) else (some false))))) else (some false))) else (some false)))))))))
end
def reply_alone.f (k : Nat) (a0_0 : Int) (a0_1 : Int) (a0_2 : Int) (a0_3 : Int) (l0_4 : List (S79)) (a0_5 : Int) (a0_6 : Bool) (l0_7 : List (S79)) (a0_8 : Int) (a0_9 : Bool) (l0_10 : List (S27)) (a0_11 : Int) (a0_12 : Int) (a0_13 : Int) (l0_14 : List Int) (l0_15 : List (List Int)) (a0_16 : Int) (a0_17 : Int) : Option (Bool) := if a0_1 = 0 then (reply_alone.j0 k a0_0 a0_0 a0_1 a0_2 a0_3 l0_4 a0_5 a0_6 l0_7 a0_8 a0_9 l0_10 a0_11 a0_12 a0_13 l0_14 l0_15 a0_16 a0_17) else (reply_alone.j0 k 0 a0_0 a0_1 a0_2 a0_3 l0_4 a0_5 a0_6 l0_7 a0_8 a0_9 l0_10 a0_11 a0_12 a0_13 l0_14 l0_15 a0_16 a0_17)
theorem reply_alone.mono_l : ∀ k, (∀ y0 y1 y2 y3 y4 y5 y6 y7 y8 y9 y10 y11 y12 y13 y14 y15 y16 y17 y18, LeO (reply_alone.j0 k y0 y1 y2 y3 y4 y5 y6 y7 y8 y9 y10 y11 y12 y13 y14 y15 y16 y17 y18) (reply_alone.j0 (k + 1) y0 y1 y2 y3 y4 y5 y6 y7 y8 y9 y10 y11 y12 y13 y14 y15 y16 y17 y18)) ∧ (∀ y0 y1 y2 y3 y4 y5 y6 y7 y8 y9 y10 y11 y12 y13 y14 y15 y16 y17 y18 y19 y20 y21, LeO (reply_alone.l0 k y0 y1 y2 y3 y4 y5 y6 y7 y8 y9 y10 y11 y12 y13 y14 y15 y16 y17 y18 y19 y20 y21) (reply_alone.l0 (k + 1) y0 y1 y2 y3 y4 y5 y6 y7 y8 y9 y10 y11 y12 y13 y14 y15 y16 y17 y18 y19 y20 y21))
 | 0 => ⟨fun _ _ _ _ _ _ _ _ _ _ _ _ _ _ _ _ _ _ _ r h => by simp [reply_alone.j0] at h, fun _ _ _ _ _ _ _ _ _ _ _ _ _ _ _ _ _ _ _ _ _ _ r h => by simp [reply_alone.l0] at h⟩
 | k + 1 => by
  obtain ⟨ih0, ih1⟩ := reply_alone.mono_l k; refine ⟨?_, ?_⟩
  ·
   intro y0 y1 y2 y3 y4 y5 y6 y7 y8 y9 y10 y11 y12 y13 y14 y15 y16 y17 y18
   unfold reply_alone.j0
   repeat' first
   | (with_reducible exact ih0 _ _ _ _ _ _ _ _ _ _ _ _ _ _ _ _ _ _ _)
   | (with_reducible exact ih1 _ _ _ _ _ _ _ _ _ _ _ _ _ _ _ _ _ _ _ _ _ _)
   | (with_reducible exact LeO.refl _)
   | (with_reducible exact LeO.none _)
   | (with_reducible refine LeO.ite ?_ ?_)
   | (with_reducible refine LeO.bind ?_ (fun _ => ?_))
   | exact ih0 _ _ _ _ _ _ _ _ _ _ _ _ _ _ _ _ _ _ _
   | exact ih1 _ _ _ _ _ _ _ _ _ _ _ _ _ _ _ _ _ _ _ _ _ _
   | exact LeO.none _
   | refine LeO.ite ?_ ?_
   | refine LeO.bind ?_ (fun _ => ?_)
  ·
   intro y0 y1 y2 y3 y4 y5 y6 y7 y8 y9 y10 y11 y12 y13 y14 y15 y16 y17 y18 y19 y20 y21
   unfold reply_alone.l0
   repeat' first
   | (with_reducible exact ih0 _ _ _ _ _ _ _ _ _ _ _ _ _ _ _ _ _ _ _)
   | (with_reducible exact ih1 _ _ _ _ _ _ _ _ _ _ _ _ _ _ _ _ _ _ _ _ _ _)
   | (with_reducible exact LeO.refl _)
   | (with_reducible exact LeO.none _)
   | (with_reducible refine LeO.ite ?_ ?_)
   | (with_reducible refine LeO.bind ?_ (fun _ => ?_))
   | exact ih0 _ _ _ _ _ _ _ _ _ _ _ _ _ _ _ _ _ _ _
   | exact ih1 _ _ _ _ _ _ _ _ _ _ _ _ _ _ _ _ _ _ _ _ _ _
   | exact LeO.none _
   | refine LeO.ite ?_ ?_
   | refine LeO.bind ?_ (fun _ => ?_)
theorem reply_alone.mono : ∀ a0 a1 a2 a3 a4 a5 a6 a7 a8 a9 a10 a11 a12 a13 a14 a15 a16 a17 k, LeO (reply_alone.f k a0 a1 a2 a3 a4 a5 a6 a7 a8 a9 a10 a11 a12 a13 a14 a15 a16 a17) (reply_alone.f (k + 1) a0 a1 a2 a3 a4 a5 a6 a7 a8 a9 a10 a11 a12 a13 a14 a15 a16 a17) := by
 intro a0 a1 a2 a3 a4 a5 a6 a7 a8 a9 a10 a11 a12 a13 a14 a15 a16 a17 k
 obtain ⟨ih0, ih1⟩ := reply_alone.mono_l k; unfold reply_alone.f
 repeat' first
   | (with_reducible exact ih0 _ _ _ _ _ _ _ _ _ _ _ _ _ _ _ _ _ _ _)
   | (with_reducible exact ih1 _ _ _ _ _ _ _ _ _ _ _ _ _ _ _ _ _ _ _ _ _ _)
   | (with_reducible exact LeO.refl _)
   | (with_reducible exact LeO.none _)
   | (with_reducible refine LeO.ite ?_ ?_)
   | (with_reducible refine LeO.bind ?_ (fun _ => ?_))
   | exact ih0 _ _ _ _ _ _ _ _ _ _ _ _ _ _ _ _ _ _ _
   | exact ih1 _ _ _ _ _ _ _ _ _ _ _ _ _ _ _ _ _ _ _ _ _ _
   | exact LeO.none _
   | refine LeO.ite ?_ ?_
   | refine LeO.bind ?_ (fun _ => ?_)
theorem some_ite0 {c : Prop} [Decidable c] {b : Bool} : (if c then some b else some false) = some (decide c && b) := by by_cases h : c <;> simp [h]
theorem some_ite1 {c : Prop} [Decidable c] {b : Bool} : (if c then some false else some b) = some (!decide c && b) := by by_cases h : c <;> simp [h]
theorem beq_dec (a b : Int) : (a == b) = decide (a = b) := rfl
theorem alone_exit {k : Nat} {x n i a0 a1 a2 a3 a5 a8 a11 a12 a13 a16 a17 : Int} {a6 a9 r : Bool} {l4 l7 : List S79} {l l10 : List S27} {l14 : List Int} {l15 : List (List Int)} (hi : ¬ i < n) (h : reply_alone.l0 (k + 1) x l n i a0 a1 a2 a3 l4 a5 a6 l7 a8 a9 l10 a11 a12 a13 l14 l15 a16 a17 = some r) :
    ∃ t, (if (x == 1 || x == 2 || x == 3) = true then reply_toldAlone.f a3 l4 a5 a6 l7 a8 = some t else reply_noTold.f a3 l4 a5 a6 l7 a8 = some t) ∧ r = ((((((((t && (x == 4 || (l10.length : Int) == 0)) && (x == 4 || x == 8 || x == 13 || !a9)) && ((x == 6 || x == 8 || x == 13 || x == 9) || x == 11 || a11 == 0)) && ((x == 6 || x == 8 || x == 13 || x == 9) || x == 15 || a12 == 0)) && (x == 9 || x == 15 || a13 == 0)) && (x == 9 || (l15.length : Int) == 0)) && (x == 10 || (l14.length : Int) == 0)) && (x == 14 || a16 == 0)) := by
  simp only [reply_alone.l0] at h
  rw [if_neg hi] at h
  by_cases c1 : x = 1
  · subst c1
    simp only [Int.reduceEq, reduceIte] at h
    obtain ⟨t, ht, h⟩ := Option.bind_eq_some_iff.1 h
    refine ⟨t, by simpa using ht, ?_⟩
    simp only [some_ite0, some_ite1] at h
    rw [← Option.some.inj h]
    simp only [beq_dec]
    simp [Bool.and_assoc]
  by_cases c2 : x = 2
  · subst c2
    simp only [Int.reduceEq, reduceIte] at h
    obtain ⟨t, ht, h⟩ := Option.bind_eq_some_iff.1 h
    refine ⟨t, by simpa using ht, ?_⟩
    simp only [some_ite0, some_ite1] at h
    rw [← Option.some.inj h]
    simp only [beq_dec]
    simp [Bool.and_assoc]
  by_cases c6 : x = 6
  · subst c6
    simp only [Int.reduceEq, reduceIte] at h
    obtain ⟨t, ht, h⟩ := Option.bind_eq_some_iff.1 h
    refine ⟨t, by simpa using ht, ?_⟩
    simp only [some_ite0, some_ite1] at h
    rw [← Option.some.inj h]
    simp only [beq_dec]
    simp [Bool.and_assoc]
  by_cases c8 : x = 8
  · subst c8
    simp only [Int.reduceEq, reduceIte] at h
    obtain ⟨t, ht, h⟩ := Option.bind_eq_some_iff.1 h
    refine ⟨t, by simpa using ht, ?_⟩
    simp only [some_ite0, some_ite1] at h
    rw [← Option.some.inj h]
    simp only [beq_dec]
    simp [Bool.and_assoc]
  by_cases c13 : x = 13
  · subst c13
    simp only [Int.reduceEq, reduceIte] at h
    obtain ⟨t, ht, h⟩ := Option.bind_eq_some_iff.1 h
    refine ⟨t, by simpa using ht, ?_⟩
    simp only [some_ite0, some_ite1] at h
    rw [← Option.some.inj h]
    simp only [beq_dec]
    simp [Bool.and_assoc]
  by_cases c3 : x = 3
  · subst c3
    simp only [Int.reduceEq, reduceIte] at h
    obtain ⟨t, ht, h⟩ := Option.bind_eq_some_iff.1 h
    refine ⟨t, by simpa using ht, ?_⟩
    simp only [some_ite0, some_ite1] at h
    rw [← Option.some.inj h]
    simp only [beq_dec]
    simp [Bool.and_assoc]
  by_cases c4 : x = 4
  · subst c4
    simp only [Int.reduceEq, reduceIte] at h
    obtain ⟨t, ht, h⟩ := Option.bind_eq_some_iff.1 h
    refine ⟨t, by simpa using ht, ?_⟩
    simp only [some_ite0, some_ite1] at h
    rw [← Option.some.inj h]
    simp only [beq_dec]
    simp [Bool.and_assoc]
  by_cases c9 : x = 9
  · subst c9
    simp only [Int.reduceEq, reduceIte] at h
    obtain ⟨t, ht, h⟩ := Option.bind_eq_some_iff.1 h
    refine ⟨t, by simpa using ht, ?_⟩
    simp only [some_ite0, some_ite1] at h
    rw [← Option.some.inj h]
    simp only [beq_dec]
    simp [Bool.and_assoc]
  by_cases c11 : x = 11
  · subst c11
    simp only [Int.reduceEq, reduceIte] at h
    obtain ⟨t, ht, h⟩ := Option.bind_eq_some_iff.1 h
    refine ⟨t, by simpa using ht, ?_⟩
    simp only [some_ite0, some_ite1] at h
    rw [← Option.some.inj h]
    simp only [beq_dec]
    simp [Bool.and_assoc]
  by_cases c15 : x = 15
  · subst c15
    simp only [Int.reduceEq, reduceIte] at h
    obtain ⟨t, ht, h⟩ := Option.bind_eq_some_iff.1 h
    refine ⟨t, by simpa using ht, ?_⟩
    simp only [some_ite0, some_ite1] at h
    rw [← Option.some.inj h]
    simp only [beq_dec]
    simp [Bool.and_assoc]
  by_cases c10 : x = 10
  · subst c10
    simp only [Int.reduceEq, reduceIte] at h
    obtain ⟨t, ht, h⟩ := Option.bind_eq_some_iff.1 h
    refine ⟨t, by simpa using ht, ?_⟩
    simp only [some_ite0, some_ite1] at h
    rw [← Option.some.inj h]
    simp only [beq_dec]
    simp [Bool.and_assoc]
  by_cases c14 : x = 14
  · subst c14
    simp only [Int.reduceEq, reduceIte] at h
    obtain ⟨t, ht, h⟩ := Option.bind_eq_some_iff.1 h
    refine ⟨t, by simpa using ht, ?_⟩
    simp only [some_ite0, some_ite1] at h
    rw [← Option.some.inj h]
    simp only [beq_dec]
    simp [Bool.and_assoc]
  simp only [c1, c2, c6, c8, c13, c3, c4, c9, c11, c15, c10, c14, reduceIte] at h
  obtain ⟨t, ht, h⟩ := Option.bind_eq_some_iff.1 h
  refine ⟨t, by simpa [c1, c2, c6, c8, c13, c3, c4, c9, c11, c15, c10, c14] using ht, ?_⟩
  simp only [some_ite0, some_ite1] at h
  rw [← Option.some.inj h]
  simp only [beq_dec]
  simp [c1, c2, c6, c8, c13, c3, c4, c9, c11, c15, c10, c14, Bool.and_assoc]
set_option maxHeartbeats 8000000 in
set_option maxRecDepth 100000 in
theorem reply_alone.calls (k : Nat) (a0_0 : Int) (a0_1 : Int) (a0_2 : Int) (a0_3 : Int) (A0_4 : Option Addr) (c0_4 : Nat) (l0_4 : List (S79)) (a0_5 : Int) (a0_6 : Bool) (A0_7 : Option Addr) (c0_7 : Nat) (l0_7 : List (S79)) (a0_8 : Int) (a0_9 : Bool) (A0_10 : Option Addr) (c0_10 : Nat) (l0_10 : List (S27)) (a0_11 : Int) (a0_12 : Int) (a0_13 : Int) (A0_14 : Option Addr) (c0_14 : Nat) (l0_14 : List Int) (A0_15 : Option Addr) (c0_15 : Nat) (l0_15 : List (List Int)) (a0_16 : Int) (a0_17 : Int) (r : Bool) (w : World) (hr0_4 : Kd.C k79 w A0_4 l0_4.length l0_4) (hc0_4 : l0_4.length ≤ c0_4) (hr0_7 : Kd.C k79 w A0_7 l0_7.length l0_7) (hc0_7 : l0_7.length ≤ c0_7) (hr0_10 : Kd.C k27 w A0_10 l0_10.length l0_10) (hc0_10 : l0_10.length ≤ c0_10) (hr0_14 : Kd.C (Kd.int .i64) w A0_14 l0_14.length l0_14) (hc0_14 : l0_14.length ≤ c0_14) (hr0_15 : Kd.C (Kd.slice 5 (Kd.int .u8)) w A0_15 l0_15.length l0_15) (hc0_15 : l0_15.length ≤ c0_15) (h : reply_alone.f k a0_0 a0_1 a0_2 a0_3 l0_4 a0_5 a0_6 l0_7 a0_8 a0_9 l0_10 a0_11 a0_12 a0_13 l0_14 l0_15 a0_16 a0_17 = some r) :
  Calls Try.prog 23 #[.agg #[.int .i64 a0_0, .int .i64 a0_1, .int .i64 a0_2, .int .i64 a0_3, .slice A0_4 l0_4.length c0_4, .int .i64 a0_5, .bool a0_6, .slice A0_7 l0_7.length c0_7, .int .i64 a0_8, .bool a0_9, .slice A0_10 l0_10.length c0_10, .int .i64 a0_11, .int .i64 a0_12, .int .i64 a0_13, .slice A0_14 l0_14.length c0_14, .slice A0_15 l0_15.length c0_15, .int .u32 a0_16, .int .i64 a0_17]] w fun e w' => e = .returned (.bool r) ∧ Below w.heap.size w w' := by
 have hu33 := Try.underlying33; have hu27 := Try.underlying27; have HR0_4 := Aside0.mk hr0_4; have HC0_4 := Aside0.mk hc0_4; clear hr0_4 hc0_4; have HR0_7 := Aside0.mk hr0_7; have HC0_7 := Aside0.mk hc0_7; clear hr0_7 hc0_7; have HR0_10 := Aside0.mk hr0_10; have HC0_10 := Aside0.mk hc0_10; clear hr0_10 hc0_10; have HR0_14 := Aside0.mk hr0_14; have HC0_14 := Aside0.mk hc0_14; clear hr0_14 hc0_14; have HR0_15 := Aside0.mk hr0_15; have HC0_15 := Aside0.mk hc0_15; clear hr0_15 hc0_15; have HB := Ext.a (Below.refl w.heap.size w); have H := h; unfold reply_alone.f at H; clear h; have HC2 := Aside0.mk H; clear H
 go_enter Try.func23, Try.ntmps23
 go_upto_if 12 with (first | ((with_reducible refine gate_dst (N := 1) rfl ?_); (try (refine gate_guard (by rfl) ?_; dsimp only)); refine box_event ?hg (N := 1) ?hd (cs := #[.int .i64 a0_0, .int .i64 a0_1, .int .i64 a0_2, .int .i64 a0_3, .slice A0_4 l0_4.length c0_4, .int .i64 a0_5, .bool a0_6, .slice A0_7 l0_7.length c0_7, .int .i64 a0_8, .bool a0_9, .slice A0_10 l0_10.length c0_10, .int .i64 a0_11, .int .i64 a0_12, .int .i64 a0_13, .slice A0_14 l0_14.length c0_14, .slice A0_15 l0_15.length c0_15, .int .u32 a0_16, .int .i64 a0_17]) (t := 33) ?hr ?_; (case hd => rfl); (case hg => rfl); (case hr => first | (go_simp; done) | (go_simp; rfl)); intro gb245 hg w3 hbox hb; have BK245 := Ext.a (hbox); have GW245 := Ext.gw hg (below_size (Ext.nB HB.out)); have GE245 := Ext.gw hg (below_size (Ext.nB HB.out)); replace HB := Ext.a (below_step (Ext.nB HB.out) hb); clear hb hbox hg; have hcz4 := Ext.cells18 BK245.out; have hfz4 := Ext.froz18 BK245.out))
 (try simp only [Act.put, Ext.sb, Ext.sz, Ext.ss])
 go_cut [3] (fun v3 wc => ∃ (kq : Nat) (x3_1 : Int), v3 = .int .i64 x3_1 ∧ Aside0 (reply_alone.j0 kq x3_1 a0_0 a0_1 a0_2 a0_3 l0_4 a0_5 a0_6 l0_7 a0_8 a0_9 l0_10 a0_11 a0_12 a0_13 l0_14 l0_15 a0_16 a0_17 = some r) ∧ Aside0 (kq ≤ k) ∧ Aside0 (wc.heap[gb245]? = some (.cells #[.int .i64 a0_0, .int .i64 a0_1, .int .i64 a0_2, .int .i64 a0_3, (.slice A0_4 l0_4.length c0_4), .int .i64 a0_5, .bool a0_6, (.slice A0_7 l0_7.length c0_7), .int .i64 a0_8, .bool a0_9, (.slice A0_10 l0_10.length c0_10), .int .i64 a0_11, .int .i64 a0_12, .int .i64 a0_13, (.slice A0_14 l0_14.length c0_14), (.slice A0_15 l0_15.length c0_15), .int .u32 a0_16, .int .i64 a0_17] 33 (0, 0))) ∧ Aside0 (Below w.heap.size w wc))
 case first =>
  have H := HC2.out; clear HC2
  by_cases c5 : a0_1 = 0
  case' _ =>
   rw [if_pos c5] at H; obtain ⟨c5b0, c5b1⟩ := Ext.eT c5; clear c5
   (first | rw [c5b0] | (simp only [i64_w, i32_w]; rw [c5b0]) | skip)
  rotate_left 1
  case' _ =>
   rw [if_neg c5] at H; obtain ⟨c5b0, c5b1⟩ := Ext.eF c5
   (first | rw [c5b0] | (simp only [i64_w, i32_w]; rw [c5b0]) | skip)
  all_goals (have H' := Aside0.mk H; clear H; go_wp2; go_meet; (case rel => exact ⟨_, _, (by first | rfl | (simp; done) | (simp [*]; done)), H', ⟨by first | omega | exact Nat.le_refl _⟩, ⟨by exact BK245.out⟩, ⟨by exact Ext.s1 GE245.out HB.out⟩⟩))
 case rest =>
  clear HC2; (try clear c2 p2 c5b0 c5b1 hcz4 hfz4); obtain ⟨kq, x3_1, rfl, HA, HJ1, BK245, HB⟩ := hcut; cases kq with
  | zero => exact absurd HA.out (by simp [reply_alone.j0])
  | succ kj1 =>
   have H := HA.out; clear HA; simp only [reply_alone.j0] at H; have H' := Aside0.mk H; clear H; have hcz6 := Ext.cells18 BK245.out; have hfz6 := Ext.froz18 BK245.out
   go_wp2
   go_loopg [16] kj1 (fun kq v16 w' => ∃ (x16_2 : Int), v16 = .int .i64 x16_2 ∧ Aside0 (reply_alone.l0 kq x3_1 l0_10 (l0_10.length : Int) x16_2 a0_0 a0_1 a0_2 a0_3 l0_4 a0_5 a0_6 l0_7 a0_8 a0_9 l0_10 a0_11 a0_12 a0_13 l0_14 l0_15 a0_16 a0_17 = some r) ∧ Aside0 (kq ≤ kj1) ∧ Aside0 (w'.heap[gb245]? = some (.cells #[.int .i64 a0_0, .int .i64 a0_1, .int .i64 a0_2, .int .i64 a0_3, (.slice A0_4 l0_4.length c0_4), .int .i64 a0_5, .bool a0_6, (.slice A0_7 l0_7.length c0_7), .int .i64 a0_8, .bool a0_9, (.slice A0_10 l0_10.length c0_10), .int .i64 a0_11, .int .i64 a0_12, .int .i64 a0_13, (.slice A0_14 l0_14.length c0_14), (.slice A0_15 l0_15.length c0_15), .int .u32 a0_16, .int .i64 a0_17] 33 (0, 0))) ∧ Aside0 (Below w.heap.size w w'))
   case atStart => exact ⟨(0), (by first | rfl | (simp; done) | (simp [*]; done)), H', ⟨Nat.le_refl _⟩, ⟨by exact BK245.out⟩, ⟨by exact Ext.s1 GE245.out HB.out⟩⟩
   case round =>
    clear H'; (try clear hcz6 hfz6); obtain ⟨x16_2, rfl, HA, HK2, BK245, HB⟩ := hrel; cases gk with
    | zero => exact absurd HA.out (by simp [reply_alone.l0])
    | succ k2 =>
     have H := HA.out; have HZ := HA; clear HA; simp only [reply_alone.l0] at H
     by_cases c7 : x16_2 < (l0_10.length : Int)
     ·
      rw [if_pos c7] at H; have c7b0 := decide_eq_true c7; clear c7
      by_cases c8 : 0 ≤ x16_2
      ·
       rw [if_pos c8] at H; have c8b0 := decide_eq_true c8; clear c8
       by_cases c9 : x16_2 < (l0_10.length : Int)
       ·
        rw [if_pos c9] at H; have c9b0 := decide_eq_true c9; clear c9; replace H := Option.bind_eq_some_iff.mp H; obtain ⟨t248, A100, H⟩ := H; (try dsimp only at H); have A10 := Aside0.mk A100; clear A100
        by_cases c11 : t248 = true
        ·
         subst c11; rw [if_pos rfl] at H; have H' := Aside0.mk H; clear H; have p246 : 0 ≤ (x16_2 : Int) := of_decide_eq_true (by first | (with_reducible assumption) | assumption); have q246 : x16_2 < (l0_10.length : Int) := of_decide_eq_true (by first | (with_reducible assumption) | assumption); obtain ⟨ad246, A246_1, c246_1, A246_4, c246_4, e246, hx246_0, hx246_1, hx246_2, hx246_3, hx246_4, hx246_5, hl246_1, hi246_1, hl246_4, hi246_4⟩ := at_T27 HR0_10.out x16_2 p246 q246; cases e246; replace hx246_0 := (HB.out.cell (World.block_lt_of_cell? w _ hx246_0)).trans hx246_0; replace hx246_1 := (HB.out.cell (World.block_lt_of_cell? w _ hx246_1)).trans hx246_1; replace hx246_2 := (HB.out.cell (World.block_lt_of_cell? w _ hx246_2)).trans hx246_2; replace hx246_3 := (HB.out.cell (World.block_lt_of_cell? w _ hx246_3)).trans hx246_3; replace hx246_4 := (HB.out.cell (World.block_lt_of_cell? w _ hx246_4)).trans hx246_4; replace hx246_5 := (HB.out.cell (World.block_lt_of_cell? w _ hx246_5)).trans hx246_5; have HR246_1 := Aside0.mk hi246_1; have HC246_1 := Aside0.mk hl246_1; clear hi246_1 hl246_1; have HR246_4 := Aside0.mk hi246_4; have HC246_4 := Aside0.mk hl246_4; clear hi246_4 hl246_4; replace p246 := eq_true p246; replace q246 := eq_true q246
         go_wp2_with (first | ((with_reducible refine gate_dst (N := 19) rfl ?_); (try (refine gate_guard (by rfl) ?_; dsimp only)); refine Ext.struct_load (hgd := ?hg) (t := 27) (x := ?vx_19) (ho := ?ho) (cs := [.int .i64 ((rd_T27 l0_10 x16_2).f0), .slice A246_1 ((rd_T27 l0_10 x16_2).f1.f0).length c246_1, .int .i64 ((rd_T27 l0_10 x16_2).f1.f1), .bool ((rd_T27 l0_10 x16_2).f1.f2), .slice A246_4 ((rd_T27 l0_10 x16_2).f2).length c246_4, .int .i64 ((rd_T27 l0_10 x16_2).f3)]) (haddr := ?ha) Try.underlying27 rfl (by kernel_rfl) ⟨hx246_0, hx246_1, hx246_2, hx246_3, hx246_4, hx246_5, trivial⟩ ?_; (case ho => rfl); (case hg => rfl); (case ha => rfl)) | ((with_reducible refine gate_dst (N := 5) rfl ?_); (try (refine gate_guard (by rfl) ?_; dsimp only)); refine Ext.alloc_event (hgd := ?hg) (N := 5) (_hd := ?hd) (t := 27) (ho := ?ho) info27 ?_; (case ho => rfl); (case hd => rfl); (case hg => rfl); intro gb247 hg w12 hbox hb; have BK247 := Ext.a (hbox); have GW247 := Ext.gw hg (below_size (Ext.s1 GE245.out HB.out)); have GE247 := Ext.gw hg (below_size (Ext.s1 GE245.out HB.out)); replace HB := Ext.a (below_step (Ext.s1 GE245.out HB.out) hb); have NB245_247 := Ext.nt hg (blk_lt BK245.out); have NB247_245 := Ext.ng hg (blk_lt BK245.out); replace BK245 := Ext.a (blk_below BK245.out hb); clear hb hbox hg; have hnb13 := NB247_245.out; have hnc13 := NB245_247.out; obtain ⟨hcz14_0, hcz14_1, hcz14_2, hcz14_3, hcz14_4, hcz14_5⟩ := Ext.cells6 BK247.out; obtain ⟨hfz14_0, hfz14_1, hfz14_2, hfz14_3, hfz14_4, hfz14_5⟩ := Ext.froz6 BK247.out) | ((with_reducible refine gate_store (t := 27) (p := 5) rfl ?_); refine Ext.struct_store (hgd := ?hg) (hN := ?hn) (t := 27) (p := .tmp 5) (x := ?vo_w15) (ho := ?ho) (cells := #[.int .i64 ((rd_T27 l0_10 x16_2).f0), .slice A246_1 ((rd_T27 l0_10 x16_2).f1.f0).length c246_1, .int .i64 ((rd_T27 l0_10 x16_2).f1.f1), .bool ((rd_T27 l0_10 x16_2).f1.f2), .slice A246_4 ((rd_T27 l0_10 x16_2).f2).length c246_4, .int .i64 ((rd_T27 l0_10 x16_2).f3)]) (haddr := ?ha) (hx := ?hx) BK247.out rfl (by kernel_rfl) rfl ?_; (case ho => rfl); (case hg => rfl); (case hn => rfl); (case ha => rfl); (case hx => first | rfl | (go_simp; done)); intro w15 hx_ hk_ hbl_; replace BK245 := Ext.a (KeepBut.blk hk_ BK245.out NB245_247.out (by simp)); replace BK247 := Ext.a (hx_); replace HB := Ext.a (hbl_ _ _ HB.out GE247.out); clear hx_ hk_ hbl_; obtain ⟨hcz16_0, hcz16_1, hcz16_2, hcz16_3, hcz16_4, hcz16_5⟩ := Ext.cells6 BK247.out; obtain ⟨hfz16_0, hfz16_1, hfz16_2, hfz16_3, hfz16_4, hfz16_5⟩ := Ext.froz6 BK247.out) | ((with_reducible refine gate_dst (N := 20) rfl ?_); (try (refine gate_guard (by rfl) ?_; dsimp only)); refine Ext.struct_load_blk (hgd := ?hg) (t := 27) (x := ?vx_20) (ho := ?ho) (haddr := ?ha) Try.underlying27 rfl (by kernel_rfl) BK247.out ?_; (case ho => rfl); (case hg => rfl); (case ha => rfl)) | ((with_reducible refine gate_callee (f := 48) rfl ?_); refine Ext.gs (some 21) rfl rfl Try.func48 #[.agg #[.int .i64 ((rd_T27 l0_10 x16_2).f0), .slice A246_1 ((rd_T27 l0_10 x16_2).f1.f0).length c246_1, .int .i64 ((rd_T27 l0_10 x16_2).f1.f1), .bool ((rd_T27 l0_10 x16_2).f1.f2), .slice A246_4 ((rd_T27 l0_10 x16_2).f2).length c246_4, .int .i64 ((rd_T27 l0_10 x16_2).f3)]] rfl ?_; (with_reducible refine (reply_toldAlone.calls ((rd_T27 l0_10 x16_2).f0) _ _ ((rd_T27 l0_10 x16_2).f1.f0) ((rd_T27 l0_10 x16_2).f1.f1) ((rd_T27 l0_10 x16_2).f1.f2) _ _ ((rd_T27 l0_10 x16_2).f2) ((rd_T27 l0_10 x16_2).f3) true _ ?side1 ?side2 ?side3 ?side4 A10.out).mono ?_); (case side1 => first | exact Ext.kC HR246_1.out HB.out | exact Ext.nC HR246_1.out); (case side2 => exact HC246_1.out); (case side3 => first | exact Ext.kC HR246_4.out HB.out | exact Ext.nC HR246_4.out); (case side4 => exact HC246_4.out); rintro e w17 ⟨rfl, hb⟩; refine ⟨_, rfl, ?_⟩; replace BK245 := Ext.a (blk_below BK245.out hb); replace BK247 := Ext.a (blk_below BK247.out hb); replace HB := Ext.a (below_step (Ext.s2 GE245.out GE247.out HB.out) hb); (try clear hb)))
         go_roundg k2
         case measure => have := HJ1.out; have := HK2.out; omega
         case rel => exact ⟨(wrap64 (x16_2 + 1)), (by first | rfl | (simp; done) | (simp [*]; done)), H', ⟨by have := HJ1.out; have := HK2.out; omega⟩, ⟨by exact BK245.out⟩, ⟨by exact Ext.s2 GE245.out GE247.out HB.out⟩⟩
        ·
         replace c11 := Bool.eq_false_iff.mpr c11; subst c11; rw [if_neg Bool.false_ne_true] at H; obtain rfl := Option.some.inj H; have p246 : 0 ≤ (x16_2 : Int) := of_decide_eq_true (by first | (with_reducible assumption) | assumption); have q246 : x16_2 < (l0_10.length : Int) := of_decide_eq_true (by first | (with_reducible assumption) | assumption); obtain ⟨ad246, A246_1, c246_1, A246_4, c246_4, e246, hx246_0, hx246_1, hx246_2, hx246_3, hx246_4, hx246_5, hl246_1, hi246_1, hl246_4, hi246_4⟩ := at_T27 HR0_10.out x16_2 p246 q246; cases e246; replace hx246_0 := (HB.out.cell (World.block_lt_of_cell? w _ hx246_0)).trans hx246_0; replace hx246_1 := (HB.out.cell (World.block_lt_of_cell? w _ hx246_1)).trans hx246_1; replace hx246_2 := (HB.out.cell (World.block_lt_of_cell? w _ hx246_2)).trans hx246_2; replace hx246_3 := (HB.out.cell (World.block_lt_of_cell? w _ hx246_3)).trans hx246_3; replace hx246_4 := (HB.out.cell (World.block_lt_of_cell? w _ hx246_4)).trans hx246_4; replace hx246_5 := (HB.out.cell (World.block_lt_of_cell? w _ hx246_5)).trans hx246_5; have HR246_1 := Aside0.mk hi246_1; have HC246_1 := Aside0.mk hl246_1; clear hi246_1 hl246_1; have HR246_4 := Aside0.mk hi246_4; have HC246_4 := Aside0.mk hl246_4; clear hi246_4 hl246_4; replace p246 := eq_true p246; replace q246 := eq_true q246
         go_wp2_with (first | ((with_reducible refine gate_dst (N := 19) rfl ?_); (try (refine gate_guard (by rfl) ?_; dsimp only)); refine Ext.struct_load (hgd := ?hg) (t := 27) (x := ?vx_19) (ho := ?ho) (cs := [.int .i64 ((rd_T27 l0_10 x16_2).f0), .slice A246_1 ((rd_T27 l0_10 x16_2).f1.f0).length c246_1, .int .i64 ((rd_T27 l0_10 x16_2).f1.f1), .bool ((rd_T27 l0_10 x16_2).f1.f2), .slice A246_4 ((rd_T27 l0_10 x16_2).f2).length c246_4, .int .i64 ((rd_T27 l0_10 x16_2).f3)]) (haddr := ?ha) Try.underlying27 rfl (by kernel_rfl) ⟨hx246_0, hx246_1, hx246_2, hx246_3, hx246_4, hx246_5, trivial⟩ ?_; (case ho => rfl); (case hg => rfl); (case ha => rfl)) | ((with_reducible refine gate_dst (N := 5) rfl ?_); (try (refine gate_guard (by rfl) ?_; dsimp only)); refine Ext.alloc_event (hgd := ?hg) (N := 5) (_hd := ?hd) (t := 27) (ho := ?ho) info27 ?_; (case ho => rfl); (case hd => rfl); (case hg => rfl); intro gb247 hg w18 hbox hb; have BK247 := Ext.a (hbox); have GW247 := Ext.gw hg (below_size (Ext.s1 GE245.out HB.out)); have GE247 := Ext.gw hg (below_size (Ext.s1 GE245.out HB.out)); replace HB := Ext.a (below_step (Ext.s1 GE245.out HB.out) hb); have NB245_247 := Ext.nt hg (blk_lt BK245.out); have NB247_245 := Ext.ng hg (blk_lt BK245.out); replace BK245 := Ext.a (blk_below BK245.out hb); clear hb hbox hg; have hnb19 := NB247_245.out; have hnc19 := NB245_247.out; obtain ⟨hcz20_0, hcz20_1, hcz20_2, hcz20_3, hcz20_4, hcz20_5⟩ := Ext.cells6 BK247.out; obtain ⟨hfz20_0, hfz20_1, hfz20_2, hfz20_3, hfz20_4, hfz20_5⟩ := Ext.froz6 BK247.out) | ((with_reducible refine gate_store (t := 27) (p := 5) rfl ?_); refine Ext.struct_store (hgd := ?hg) (hN := ?hn) (t := 27) (p := .tmp 5) (x := ?vo_w21) (ho := ?ho) (cells := #[.int .i64 ((rd_T27 l0_10 x16_2).f0), .slice A246_1 ((rd_T27 l0_10 x16_2).f1.f0).length c246_1, .int .i64 ((rd_T27 l0_10 x16_2).f1.f1), .bool ((rd_T27 l0_10 x16_2).f1.f2), .slice A246_4 ((rd_T27 l0_10 x16_2).f2).length c246_4, .int .i64 ((rd_T27 l0_10 x16_2).f3)]) (haddr := ?ha) (hx := ?hx) BK247.out rfl (by kernel_rfl) rfl ?_; (case ho => rfl); (case hg => rfl); (case hn => rfl); (case ha => rfl); (case hx => first | rfl | (go_simp; done)); intro w21 hx_ hk_ hbl_; replace BK245 := Ext.a (KeepBut.blk hk_ BK245.out NB245_247.out (by simp)); replace BK247 := Ext.a (hx_); replace HB := Ext.a (hbl_ _ _ HB.out GE247.out); clear hx_ hk_ hbl_; obtain ⟨hcz22_0, hcz22_1, hcz22_2, hcz22_3, hcz22_4, hcz22_5⟩ := Ext.cells6 BK247.out; obtain ⟨hfz22_0, hfz22_1, hfz22_2, hfz22_3, hfz22_4, hfz22_5⟩ := Ext.froz6 BK247.out) | ((with_reducible refine gate_dst (N := 20) rfl ?_); (try (refine gate_guard (by rfl) ?_; dsimp only)); refine Ext.struct_load_blk (hgd := ?hg) (t := 27) (x := ?vx_20) (ho := ?ho) (haddr := ?ha) Try.underlying27 rfl (by kernel_rfl) BK247.out ?_; (case ho => rfl); (case hg => rfl); (case ha => rfl)) | ((with_reducible refine gate_callee (f := 48) rfl ?_); refine Ext.gs (some 21) rfl rfl Try.func48 #[.agg #[.int .i64 ((rd_T27 l0_10 x16_2).f0), .slice A246_1 ((rd_T27 l0_10 x16_2).f1.f0).length c246_1, .int .i64 ((rd_T27 l0_10 x16_2).f1.f1), .bool ((rd_T27 l0_10 x16_2).f1.f2), .slice A246_4 ((rd_T27 l0_10 x16_2).f2).length c246_4, .int .i64 ((rd_T27 l0_10 x16_2).f3)]] rfl ?_; (with_reducible refine (reply_toldAlone.calls ((rd_T27 l0_10 x16_2).f0) _ _ ((rd_T27 l0_10 x16_2).f1.f0) ((rd_T27 l0_10 x16_2).f1.f1) ((rd_T27 l0_10 x16_2).f1.f2) _ _ ((rd_T27 l0_10 x16_2).f2) ((rd_T27 l0_10 x16_2).f3) false _ ?side1 ?side2 ?side3 ?side4 A10.out).mono ?_); (case side1 => first | exact Ext.kC HR246_1.out HB.out | exact Ext.nC HR246_1.out); (case side2 => exact HC246_1.out); (case side3 => first | exact Ext.kC HR246_4.out HB.out | exact Ext.nC HR246_4.out); (case side4 => exact HC246_4.out); rintro e w23 ⟨rfl, hb⟩; refine ⟨_, rfl, ?_⟩; replace BK245 := Ext.a (blk_below BK245.out hb); replace BK247 := Ext.a (blk_below BK247.out hb); replace HB := Ext.a (below_step (Ext.s2 GE245.out GE247.out HB.out) hb); (try clear hb)))
         go_ret
         exact ⟨by first | rfl | (simp [errW_none, errW_some] <;> rfl) | (simp [*, errW_none, errW_some] <;> rfl), by exact Ext.s2 GE245.out GE247.out HB.out⟩
       · rw [if_neg c9] at H; exact absurd H (by simp)
      · rw [if_neg c8] at H; exact absurd H (by simp)
     ·
      clear H
      obtain ⟨tz, hz, rfl⟩ := alone_exit c7 HZ.out
      clear HZ
      have c7b0 := decide_eq_false c7
      clear c7
      go_upto_region 10 with (with_reducible refine gate_dst (N := 9999) rfl ?_)
      refine Fast.reg (ops' := al10) (by kernel_rfl) (reg10 (g := gb245) (x := x3_1) (by rfl) (by rfl) (by rfl) fun T1 n1 p1 x1 s1 t1 => ?_)
      go_upto_region 11 with (with_reducible refine gate_dst (N := 9999) rfl ?_)
      refine Fast.reg (ops' := al11) (by kernel_rfl) (reg11 (g := gb245) (x := x3_1) n1 p1 x1 fun T2 n2 p2 x2 s2 t2 => ?_)
      go_upto_region 12 with (with_reducible refine gate_dst (N := 9999) rfl ?_)
      refine Fast.reg (ops' := al12) (by kernel_rfl) (reg12 (g := gb245) (x := x3_1) (t := tz) BK245.out n2 p2 x2 (s2.trans t1) t2 (fun hx => ?_) (fun hx => ?_) fun T3 w3 hb n3 r3 => ?_)
      · rw [if_pos hx] at hz
        exact reply_toldAlone.calls a0_3 _ _ l0_4 a0_5 a0_6 _ _ l0_7 a0_8 tz _ (by first | exact Ext.kC HR0_4.out HB.out | exact Ext.nC HR0_4.out) HC0_4.out (by first | exact Ext.kC HR0_7.out HB.out | exact Ext.nC HR0_7.out) HC0_7.out hz
      · rw [if_neg (by rw [hx]; decide)] at hz
        exact reply_noTold.calls a0_3 _ _ l0_4 a0_5 a0_6 _ _ l0_7 a0_8 tz _ (by first | exact Ext.kC HR0_4.out HB.out | exact Ext.nC HR0_4.out) HC0_4.out (by first | exact Ext.kC HR0_7.out HB.out | exact Ext.nC HR0_7.out) HC0_7.out hz
      replace HB := Ext.a (below_step (Ext.s1 GE245.out HB.out) hb)
      go_wp2
      go_ret
      exact ⟨by simp [r3], HB.out⟩
end Go.Proofs.Ytlhjdmpclfhoeaa.PC
