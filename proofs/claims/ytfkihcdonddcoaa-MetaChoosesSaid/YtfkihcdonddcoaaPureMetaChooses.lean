/- Of any two pages the meta is chosen that the document says: the plain statement that is left of the law MetaChooses. -/
import Derived.Test.YtfkihcdonddcoaaOctMetaChooses
import Derived.Test.YtfkihcdonddcoaaMetMetaChooses
import Derived.Test.YtfkihcdonddcoaaMetDMetaChooses
import Derived.Test.YtfkihcdonddcoaaPCx11
import Derived.Test.YtfkihcdonddcoaaPCx15
import Derived.Test.YtfkihcdonddcoaaPCx16
namespace Go.Proofs.Ytfkihcdonddcoaa.Pure
open Go.RowKit Go.Proofs.YtfkihcdonddcoaaW.PrintWords Go.Proofs.YtfkihcdonddcoaaW.PrintLast Go.Proofs.YtfkihcdonddcoaaW.PrintMore Go.Proofs.Ytfkihcdonddcoaa.PC Go.Proofs.Ytfkihcdonddcoaa.Base Go.Proofs.Ytfkihcdonddcoaa.Oct Go.Proofs.Ytfkihcdonddcoaa.Crc Go.Proofs.Ytfkihcdonddcoaa.Sum Go.Proofs.Ytfkihcdonddcoaa.Met Go.Proofs.Ytfkihcdonddcoaa.MetD
def choice (a b : MRes) : MRes :=
  let even := decide (a.2.2.2.2 = 0) && (Int.tmod a.1 2 == 0)
  let odd := decide (b.2.2.2.2 = 0) && (Int.tmod b.1 2 == 1)
  if (even && (!odd || decide (a.1 > b.1))) = true then (a.1, a.2.1, a.2.2.1, a.2.2.2.1, 0) else if odd = true then (b.1, b.2.1, b.2.2.1, b.2.2.2.1, 0) else (0, 0, 0, 0, 7)
theorem refChoose_ev (A B : List Int) (a b : MRes) (ha : Ev (fun k => terrierref05_Decode.f k A) a) (hb : Ev (fun k => terrierref05_Decode.f k B) b) : Ev (fun k => terrierref05_Choose.f k A B) (choice a b) := by
  obtain ⟨a1, a2, a3, a4, a5⟩ := a
  obtain ⟨b1, b2, b3, b4, b5⟩ := b
  unfold terrierref05_Choose.f
  refine Ev.bind ha (Ev.bind hb ?_)
  have two : ∀ (od y : Bool), Ev (fun k => terrierref05_Choose.j2 k od y a1 a2 a3 a4 b1 b2 b3 b4) (if y = true then ((a1, a2, a3, a4, 0) : MRes) else if od = true then (b1, b2, b3, b4, 0) else (0, 0, 0, 0, 7)) := by
    intro od y
    refine Ev.step (fun k => by rw [terrierref05_Choose.j2]) ?_
    cases y with
    | true => exact Ev.iteT rfl (Ev.now _)
    | false =>
      refine Ev.iteF (by decide) ?_
      cases od with
      | true => exact Ev.iteT rfl (Ev.now _)
      | false => exact Ev.iteF (by decide) (Ev.now _)
  have one : ∀ ev od : Bool, Ev (fun k => terrierref05_Choose.j1 k ev od a1 a2 a3 a4 b1 b2 b3 b4) (if (ev && (!od || decide (a1 > b1))) = true then ((a1, a2, a3, a4, 0) : MRes) else if od = true then (b1, b2, b3, b4, 0) else (0, 0, 0, 0, 7)) := by
    intro ev od
    refine Ev.step (fun k => by rw [terrierref05_Choose.j1]) ?_
    cases ev with
    | false => exact Ev.iteF (by decide) (Ev.eq (two od false) (by simp))
    | true =>
      refine Ev.iteT rfl ?_
      cases od with
      | false => exact Ev.iteF (by decide) (Ev.eq (two false true) (by simp))
      | true => exact Ev.iteT rfl (Ev.eq (two true _) (by simp))
  have zero : ∀ ev : Bool, Ev (fun k => terrierref05_Choose.j0 k b5 ev a1 a2 a3 a4 b1 b2 b3 b4) (if (ev && (!(decide (b5 = 0) && (Int.tmod b1 2 == 1)) || decide (a1 > b1))) = true then ((a1, a2, a3, a4, 0) : MRes) else if (decide (b5 = 0) && (Int.tmod b1 2 == 1)) = true then (b1, b2, b3, b4, 0) else (0, 0, 0, 0, 7)) := by
    intro ev
    refine Ev.step (fun k => by rw [terrierref05_Choose.j0]) ?_
    by_cases c : b5 = 0
    · exact Ev.iteT c (Ev.eq (one ev _) (by simp [c]))
    · exact Ev.iteF c (Ev.eq (one ev false) (by simp [c]))
  by_cases c : a5 = 0
  · exact Ev.iteT c (Ev.eq (zero _) (by simp [choice, c]))
  · exact Ev.iteF c (Ev.eq (zero false) (by simp [choice, c]))
theorem choice_pick (a b : MRes) : pick 1 (pick 0 (0, 0, 0, 0, 7) a) b = choice a b := by
  obtain ⟨a1, a2, a3, a4, a5⟩ := a
  obtain ⟨b1, b2, b3, b4, b5⟩ := b
  unfold choice
  dsimp only
  by_cases ce : a5 = 0 ∧ Int.tmod a1 2 = 0
  · have h0 : pick 0 (0, 0, 0, 0, 7) (a1, a2, a3, a4, a5) = (a1, a2, a3, a4, 0) := by rw [pick, if_pos ⟨ce.1, ce.2, fun x => by cases x⟩]
    rw [h0]
    by_cases co : b5 = 0 ∧ Int.tmod b1 2 = 1
    · have hne : a1 ≠ b1 := fun e => by have := ce.2; rw [e] at this; omega
      by_cases cg : a1 > b1
      · rw [pick, if_neg (fun x => by have := x.2.2 rfl; dsimp only at this; omega)]
        simp [ce.1, ce.2, cg]
      · rw [pick, if_pos ⟨co.1, co.2, fun _ => by dsimp only; omega⟩]
        simp [co.1, co.2, cg]
    · rw [pick, if_neg (fun x => co ⟨x.1, x.2.1⟩)]
      have : (decide (b5 = 0) && (Int.tmod b1 2 == 1)) = false := by
        by_cases h : b5 = 0
        · have h2 : ¬ Int.tmod b1 2 = 1 := fun x => co ⟨h, x⟩
          simp [h, h2]
        · simp [h]
      simp [this, ce.1, ce.2]
  · have h0 : pick 0 (0, 0, 0, 0, 7) (a1, a2, a3, a4, a5) = (0, 0, 0, 0, 7) := by rw [pick, if_neg (fun x => ce ⟨x.1, x.2.1⟩)]
    have h1 : (decide (a5 = 0) && (Int.tmod a1 2 == 0)) = false := by
      by_cases h : a5 = 0
      · have h2 : ¬ Int.tmod a1 2 = 0 := fun x => ce ⟨h, x⟩
        simp [h, h2]
      · simp [h]
    rw [h0, h1]
    by_cases co : b5 = 0 ∧ Int.tmod b1 2 = 1
    · rw [pick, if_pos ⟨co.1, co.2, fun x => by cases x⟩]
      simp [co.1, co.2]
    · rw [pick, if_neg (fun x => co ⟨x.1, x.2.1⟩)]
      have : (decide (b5 = 0) && (Int.tmod b1 2 == 1)) = false := by
        by_cases h : b5 = 0
        · have h2 : ¬ Int.tmod b1 2 = 1 := fun x => co ⟨h, x⟩
          simp [h, h2]
        · simp [h]
      simp [this]
theorem MetaChooses : terrierlaw05_MetaChooses.Pure := by
  intro l m _ hl wl _ hm wm
  have hb := bytes_of_wf wl
  have hb' := bytes_of_wf wm
  refine Ev.rounds ?_
  unfold terrierlaw05_MetaChooses.f
  refine Ev.bind lives_ev (Ev.iteT rfl ?_)
  have many : Ev (fun k => terrierlaw05_MetaChooses.j0 k l m true) true := by
    refine Ev.step (fun k => by rw [terrierlaw05_MetaChooses.j0]) ?_
    exact Ev.iteT rfl (Ev.bind lives_ev (Ev.now _))
  by_cases c : (l.length : Int) > 1000
  · exact Ev.iteT c many
  refine Ev.iteF c ?_
  by_cases d : (m.length : Int) > 1000
  · rw [decide_eq_true d]; exact many
  rw [decide_eq_false d]
  refine Ev.step (fun k => by rw [terrierlaw05_MetaChooses.j0]) ?_
  refine Ev.iteF (by decide) ?_
  obtain ⟨a, h1, h2⟩ := both l hb (by omega)
  obtain ⟨b, h3, h4⟩ := both m hb' (by omega)
  refine Ev.bind (Choose_ev l m a b h1 h3) (Ev.bind (refChoose_ev l m a b h2 h4) ?_)
  rw [choice_pick]
  refine Ev.bind0 (of_eq _ _ _ _) (Ev.iteT (by simp) (Ev.eq (Ev.now _) (by simp)))
end Go.Proofs.Ytfkihcdonddcoaa.Pure
