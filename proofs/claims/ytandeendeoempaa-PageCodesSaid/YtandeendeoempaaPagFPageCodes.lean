/- Which pages are little enough to be asked about. -/
import Derived.Test.YtandeendeoempaaPagEPageCodes
import Derived.Test.YtandeendeoempaaPCx9
set_option linter.unusedSimpArgs false
namespace Go.Proofs.Ytandeendeoempaa.PagF
open Go.RowKit Go.Proofs.YtandeendeoempaaW.PrintWords Go.Proofs.YtandeendeoempaaW.PrintLast Go.Proofs.YtandeendeoempaaW.PrintMore Go.Proofs.Ytandeendeoempaa.PC Go.Proofs.Ytandeendeoempaa.Base Go.Proofs.Ytandeendeoempaa.Oct Go.Proofs.Ytandeendeoempaa.Crc Go.Proofs.Ytandeendeoempaa.Sum Go.Proofs.Ytandeendeoempaa.Pag Go.Proofs.Ytandeendeoempaa.PagE

def fewB (p : Pg) : Bool := decide (p.items.length ≤ 300) && (decide (p.kids.length ≤ 300) && (decide (p.data.length ≤ 1000) && (decide (p.ids.length ≤ 300) && (p.items.all (fun x => decide (x.f0.length ≤ 1000) && decide (x.f1.length ≤ 1000)) && p.kids.all (fun x => decide (x.f0.length ≤ 1000))))))
theorem few_l1 (ks : List S60) (hl : ks.length ≤ 300) : ∀ (m : List S60) (i : Nat), ks.drop i = m → i ≤ ks.length → Ev (fun k => terrierlaw04_few.l1 k ks (ks.length : Int) i) (m.all (fun x => decide (x.f0.length ≤ 1000)))
  | [], i, hm, hi => by
    have : ks.length ≤ i := List.drop_eq_nil_iff.1 hm
    refine Ev.step (fun k => by rw [terrierlaw04_few.l1]) ?_
    exact Ev.iteF (by omega) (Ev.now _)
  | x :: m, i, hm, hi => by
    obtain ⟨h, hx, hm'⟩ := drop_cons hm
    have e : rd_T60 ks i = x := (rd_getD ks _ i h).trans hx
    refine Ev.step (fun k => by rw [terrierlaw04_few.l1]) (Ev.iteT (by omega) (Ev.iteT (by omega) (Ev.iteT (by omega) ?_)))
    rw [e, wrapInc (by omega), List.all_cons]
    by_cases c : (x.f0.length : Int) > 1000
    · exact Ev.eq (Ev.iteT c (Ev.now _)) (by rw [decide_eq_false (by omega)]; rfl)
    · exact Ev.eq (Ev.iteF c (few_l1 ks hl m (i + 1) hm' h)) (by rw [decide_eq_true (show x.f0.length ≤ 1000 by omega), Bool.true_and])
theorem few_l0 (p : Pg) (hl : p.items.length ≤ 300) (hk : p.kids.length ≤ 300) : ∀ (m : List S44) (i : Nat), p.items.drop i = m → i ≤ p.items.length → Ev (fun k => terrierlaw04_few.l0 k p.items (p.items.length : Int) i p.k p.t p.n p.items p.kids p.data p.ids) (m.all (fun x => decide (x.f0.length ≤ 1000) && decide (x.f1.length ≤ 1000)) && p.kids.all (fun x => decide (x.f0.length ≤ 1000)))
  | [], i, hm, hi => by
    have : p.items.length ≤ i := List.drop_eq_nil_iff.1 hm
    refine Ev.step (fun k => by rw [terrierlaw04_few.l0]) ?_
    refine Ev.iteF (by omega) ?_
    exact few_l1 p.kids hk p.kids 0 rfl (by omega)
  | x :: m, i, hm, hi => by
    obtain ⟨h, hx, hm'⟩ := drop_cons hm
    have e : rd_T44 p.items i = x := (rd_getD p.items _ i h).trans hx
    refine Ev.step (fun k => by rw [terrierlaw04_few.l0]) (Ev.iteT (by omega) (Ev.iteT (by omega) (Ev.iteT (by omega) ?_)))
    rw [e, wrapInc (by omega), List.all_cons]
    by_cases c : (x.f0.length : Int) > 1000
    · exact Ev.eq (Ev.iteT c (Ev.now _)) (by rw [decide_eq_false (show ¬ x.f0.length ≤ 1000 by omega)]; rfl)
    refine Ev.iteF c ?_
    by_cases d : (x.f1.length : Int) > 1000
    · exact Ev.eq (Ev.iteT d (Ev.now _)) (by rw [decide_eq_false (show ¬ x.f1.length ≤ 1000 by omega), Bool.and_false]; rfl)
    · exact Ev.eq (Ev.iteF d (few_l0 p hl hk m (i + 1) hm' h)) (by rw [decide_eq_true (show x.f0.length ≤ 1000 by omega), decide_eq_true (show x.f1.length ≤ 1000 by omega)]; rfl)
theorem few_ev (p : Pg) : Ev (fun k => terrierlaw04_few.f k p.k p.t p.n p.items p.kids p.data p.ids) (fewB p) := by
  have jt : Ev (fun k => terrierlaw04_few.j0 k true p.k p.t p.n p.items p.kids p.data p.ids) false := Ev.step (fun k => by rw [terrierlaw04_few.j0]) (Ev.iteT rfl (Ev.now _))
  unfold terrierlaw04_few.f fewB
  by_cases c1 : (p.items.length : Int) > 300
  · exact Ev.eq (Ev.iteT c1 jt) (by rw [decide_eq_false (show ¬ p.items.length ≤ 300 by omega)]; rfl)
  refine Ev.iteF c1 ?_
  rw [decide_eq_true (show p.items.length ≤ 300 by omega), Bool.true_and]
  by_cases c2 : (p.kids.length : Int) > 300
  · exact Ev.eq (Ev.iteT c2 jt) (by rw [decide_eq_false (show ¬ p.kids.length ≤ 300 by omega)]; rfl)
  refine Ev.iteF c2 ?_
  rw [decide_eq_true (show p.kids.length ≤ 300 by omega), Bool.true_and]
  by_cases c3 : (p.data.length : Int) > 1000
  · exact Ev.eq (Ev.iteT c3 jt) (by rw [decide_eq_false (show ¬ p.data.length ≤ 1000 by omega)]; rfl)
  refine Ev.iteF c3 ?_
  rw [decide_eq_true (show p.data.length ≤ 1000 by omega), Bool.true_and]
  by_cases c4 : (p.ids.length : Int) > 300
  · rw [decide_eq_true c4, decide_eq_false (show ¬ p.ids.length ≤ 300 by omega)]
    exact jt
  · rw [decide_eq_false c4, decide_eq_true (show p.ids.length ≤ 300 by omega), Bool.true_and]
    refine Ev.step (fun k => by rw [terrierlaw04_few.j0]) ?_
    refine Ev.iteF (by decide) ?_
    exact few_l0 p (by omega) (by omega) p.items 0 rfl (by omega)
theorem sum_le {α : Type} (f : α → Nat) (c : Nat) : ∀ (l : List α), (∀ x ∈ l, f x ≤ c) → (l.map f).sum ≤ c * l.length
  | [], _ => by simp
  | x :: l, h => by
    have := sum_le f c l (fun y hy => h y (by simp [hy]))
    have := h x (by simp)
    simp only [List.map_cons, List.sum_cons, List.length_cons, Nat.mul_add, Nat.mul_one]
    omega
theorem few_used {p : Pg} (h : fewB p = true) : usedN p < 4611686018427387904 := by
  unfold fewB at h
  simp only [Bool.and_eq_true, decide_eq_true_eq, List.all_eq_true] at h
  obtain ⟨h1, h2, h3, h4, h5, h6⟩ := h
  have s1 := sum_le itemLen 2003 p.items (fun x hx => by have := h5 x hx; unfold itemLen; split <;> omega)
  have s2 := sum_le kidLen 1005 p.kids (fun x hx => by have := h6 x hx; unfold kidLen; omega)
  have m1 : 2003 * p.items.length ≤ 2003 * 300 := Nat.mul_le_mul_left _ h1
  have m2 : 1005 * p.kids.length ≤ 1005 * 300 := Nat.mul_le_mul_left _ h2
  unfold usedN
  omega
end Go.Proofs.Ytandeendeoempaa.PagF
