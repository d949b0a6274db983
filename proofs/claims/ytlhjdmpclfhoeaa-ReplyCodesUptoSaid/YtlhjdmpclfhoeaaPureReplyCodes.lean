/- Of any reply, of the bulk that the second form asks for, it is told whether it can be coded, and its bytes, as the document says: the plain statement that is left of the law ReplyCodes. -/
import Derived.Test.YtlhjdmpclfhoeaaRepFReplyCodes
import Derived.Test.YtlhjdmpclfhoeaaRepLReplyCodes
import Derived.Test.YtlhjdmpclfhoeaaPCx15
import Derived.Test.YtlhjdmpclfhoeaaPCx8
import Derived.Test.YtlhjdmpclfhoeaaPCx9
set_option linter.unusedSimpArgs false
namespace Go.Proofs.Ytlhjdmpclfhoeaa.Pure
open Go.RowKit Go.Proofs.YtlhjdmpclfhoeaaW.PrintWords Go.Proofs.YtlhjdmpclfhoeaaW.PrintLast Go.Proofs.YtlhjdmpclfhoeaaW.PrintMore Go.Proofs.Ytlhjdmpclfhoeaa.PC Go.Proofs.Ytlhjdmpclfhoeaa.Base Go.Proofs.Ytlhjdmpclfhoeaa.Oct Go.Proofs.Ytlhjdmpclfhoeaa.Rep Go.Proofs.Ytlhjdmpclfhoeaa.RepB Go.Proofs.Ytlhjdmpclfhoeaa.RepF

theorem lives_ev : Ev (fun k => terrierlaw20_lives.f k) true := by
  unfold terrierlaw20_lives.f
  have e : encE ⟨5, 0, 7, ⟨0, ⟨[], 0, false⟩, [], 0⟩, false, [], 0, 0, 0, [], [], 0, 0⟩ = ([5, 0, 0, 0, 0, 0, 0, 0, 0, 7, 0, 0, 0, 0, 0, 0, 0, 0], 0) := by decide
  have he := Encode_ev ⟨5, 0, 7, ⟨0, ⟨[], 0, false⟩, [], 0⟩, false, [], 0, 0, 0, [], [], 0, 0⟩ (by decide) (by decide) (by decide) (by decide) (by decide) (by decide)
  rw [e] at he
  refine Ev.bind he ?_
  exact Ev.iteT rfl (Ev.iteT rfl (Ev.iteT (by decide) (Ev.iteT rfl (Ev.iteT (by decide) (Ev.now _)))))
theorem kvs_tot (l : List S79) (_hl : l.length ≤ 140737488355328) : ∃ v, Ev (fun k => terrierlaw20_kvs.f k l) v := by
  have key : ∀ (d i : Nat) (x : Int), i + d = l.length → ∃ v, Ev (fun k => terrierlaw20_kvs.l0 k x l (l.length : Int) i) v := by
    intro d
    induction d with
    | zero =>
      intro i x hi
      refine ⟨x, Ev.step (fun k => by rw [terrierlaw20_kvs.l0]) ?_⟩
      exact Ev.iteF (by omega) (Ev.now _)
    | succ d ih =>
      intro i x hi
      by_cases c : (i : Int) > 100
      · refine ⟨7000, Ev.step (fun k => by rw [terrierlaw20_kvs.l0]) ?_⟩
        exact Ev.iteT (by omega) (Ev.iteT (by omega) (Ev.iteT (by omega) (Ev.iteT c (Ev.now _))))
      by_cases c2 : (wrap64 (x + ((50 + (mn (((rd_T79 l i).f0).length : Int) 5000)) + (mn (((rd_T79 l i).f1).length : Int) 5000)))) > 6000
      · refine ⟨7000, Ev.step (fun k => by rw [terrierlaw20_kvs.l0]) ?_⟩
        exact Ev.iteT (by omega) (Ev.iteT (by omega) (Ev.iteT (by omega) (Ev.iteF c (Ev.iteT c2 (Ev.now _)))))
      obtain ⟨v, hv⟩ := ih (i + 1) (wrap64 (x + ((50 + (mn (((rd_T79 l i).f0).length : Int) 5000)) + (mn (((rd_T79 l i).f1).length : Int) 5000)))) (by omega)
      refine ⟨v, Ev.step (fun k => by rw [terrierlaw20_kvs.l0]) ?_⟩
      refine Ev.iteT (by omega) (Ev.iteT (by omega) (Ev.iteT (by omega) (Ev.iteF c (Ev.iteF c2 ?_))))
      rw [wrapInc (by omega)]
      exact hv
  exact key l.length 0 0 (by omega)
theorem few_keys (l : List (List Int)) (_hl : l.length ≤ 140737488355328) : ∀ (d i : Nat) (x : Int), i + d = l.length → ∃ v, Ev (fun k => terrierlaw20_few.l1 k x l (l.length : Int) i) v := by
  intro d
  induction d with
  | zero =>
    intro i x hi
    refine ⟨decide (x ≤ 7000), Ev.step (fun k => by rw [terrierlaw20_few.l1]) ?_⟩
    exact Ev.iteF (by omega) (Ev.now _)
  | succ d ih =>
    intro i x hi
    obtain ⟨v, hv⟩ := ih (i + 1) (wrap64 (x + (mn ((rd_L1 l i).length : Int) 5000))) (by omega)
    refine ⟨v, Ev.step (fun k => by rw [terrierlaw20_few.l1]) ?_⟩
    refine Ev.iteT (by omega) (Ev.iteT (by omega) (Ev.iteT (by omega) ?_))
    rw [wrapInc (by omega)]
    exact hv
theorem few_all (r : S33) (hl : r.f5.length ≤ 140737488355328) (hk : r.f10.length ≤ 140737488355328) (ha : ∀ t ∈ r.f5, t.f1.f0.length ≤ 140737488355328 ∧ t.f2.length ≤ 140737488355328) : ∀ (d i : Nat) (x : Int), i + d = r.f5.length →
    ∃ v, Ev (fun k => terrierlaw20_few.l0 k x r.f5 (r.f5.length : Int) i r.f0 r.f1 r.f2 r.f3.f0 r.f3.f1.f0 r.f3.f1.f1 r.f3.f1.f2 r.f3.f2 r.f3.f3 r.f4 r.f5 r.f6 r.f7 r.f8 r.f9 r.f10 r.f11 r.f12) v := by
  intro d
  induction d with
  | zero =>
    intro i x hi
    obtain ⟨v, hv⟩ := few_keys r.f10 hk r.f10.length 0 x (by omega)
    refine ⟨v, Ev.step (fun k => by rw [terrierlaw20_few.l0]) ?_⟩
    exact Ev.iteF (by omega) hv
  | succ d ih =>
    intro i x hi
    have hi' : i < r.f5.length := by omega
    have m := ha _ (List.getElem_mem hi')
    obtain ⟨v1, h1⟩ := kvs_tot (r.f5[i]).f1.f0 m.1
    obtain ⟨v2, h2⟩ := kvs_tot (r.f5[i]).f2 m.2
    obtain ⟨v, hv⟩ := ih (i + 1) (wrap64 (x + wrap64 (v1 + v2))) (by omega)
    refine ⟨v, Ev.step (fun k => by rw [terrierlaw20_few.l0]) ?_⟩
    refine Ev.iteT (by omega) (Ev.iteT (by omega) (Ev.iteT (by omega) ?_))
    rw [rd_T27_at _ i hi', wrapInc (by omega)]
    exact Ev.bind h1 (Ev.bind h2 hv)
theorem few_ev (r : S33) (hl : r.f5.length ≤ 140737488355328) (hk : r.f10.length ≤ 140737488355328) (ha : ∀ t ∈ r.f5, t.f1.f0.length ≤ 140737488355328 ∧ t.f2.length ≤ 140737488355328) (h1 : r.f3.f1.f0.length ≤ 140737488355328) (h2 : r.f3.f2.length ≤ 140737488355328) :
    ∃ v, Ev (fun k => terrierlaw20_few.f k r.f0 r.f1 r.f2 r.f3.f0 r.f3.f1.f0 r.f3.f1.f1 r.f3.f1.f2 r.f3.f2 r.f3.f3 r.f4 r.f5 r.f6 r.f7 r.f8 r.f9 r.f10 r.f11 r.f12) v ∧ (v = true → r.f5.length ≤ 50) := by
  obtain ⟨v1, e1⟩ := kvs_tot _ h1
  obtain ⟨v2, e2⟩ := kvs_tot _ h2
  have j0 : ∀ c : Bool, ∃ v, Ev (fun k => terrierlaw20_few.j0 k (wrap64 (v1 + v2)) c r.f0 r.f1 r.f2 r.f3.f0 r.f3.f1.f0 r.f3.f1.f1 r.f3.f1.f2 r.f3.f2 r.f3.f3 r.f4 r.f5 r.f6 r.f7 r.f8 r.f9 r.f10 r.f11 r.f12) v ∧ (c = true → v = false) := by
    intro c
    by_cases hc : c = true
    · refine ⟨false, Ev.step (fun k => by rw [terrierlaw20_few.j0]) ?_, fun _ => rfl⟩
      exact Ev.iteT hc (Ev.now _)
    · obtain ⟨v, hv⟩ := few_all r hl hk ha r.f5.length 0 (wrap64 (v1 + v2)) (by omega)
      refine ⟨v, Ev.step (fun k => by rw [terrierlaw20_few.j0]) ?_, fun h => absurd h hc⟩
      exact Ev.iteF hc hv
  unfold terrierlaw20_few.f
  by_cases c : (r.f5.length : Int) > 50
  · obtain ⟨v, hv, hf⟩ := j0 true
    exact ⟨v, Ev.bind e1 (Ev.bind e2 (Ev.iteT c hv)), fun h => by rw [hf rfl] at h; cases h⟩
  by_cases d : (r.f10.length : Int) > 100
  · obtain ⟨v, hv, hf⟩ := j0 true
    exact ⟨v, Ev.bind e1 (Ev.bind e2 (Ev.iteF c (Ev.iteT d hv))), fun h => by rw [hf rfl] at h; cases h⟩
  obtain ⟨v, hv, hf⟩ := j0 (decide ((r.f9.length : Int) > 300))
  exact ⟨v, Ev.bind e1 (Ev.bind e2 (Ev.iteF c (Ev.iteF d hv))), fun _ => by omega⟩
/-! ### both say the same -/
def bad (c : Bool) : W := ([], c)
theorem Sim.tt {x y : W} (h : x.2 = true) (k : y.2 = true) : Sim x y := ⟨h.trans k.symm, fun z => by rw [h] at z; cases z⟩
theorem sq_assoc (a b c : W) : sq (sq a b) c = sq a (sq b c) := by simp [sq, List.append_assoc, Bool.or_assoc]
theorem kvs_sim (l : List S79) : Sim (wRow wKV l) (rKVs l) := row_sim _ _ kv_sim l
theorem len_pos (n : Nat) : decide ((n : Int) > 0) = !decide (n = 0) := by
  cases n with
  | zero => rfl
  | succ n => simp
theorem len_pos' (n : Nat) : decide (0 < n) = !decide (n = 0) := by
  cases n with
  | zero => rfl
  | succ n => simp
theorem told_sim (t : S27) : Sim (sq (wTold t) (bad (!toldAloneB t))) (rTold t) := by
  unfold wTold rTold rRest toldAloneB more
  rw [sq_assoc]
  by_cases c1 : t.f0 = 1
  · rw [if_pos c1, if_pos c1, sq_assoc, sq_assoc]
    refine (Sim.refl _).sq ((kvs_sim _).sq ((Sim.refl _).sq ((Sim.refl _).sq ?_)))
    have e : (!((t.f0 == 1 || (decide (t.f1.f0.length = 0) && (t.f1.f1 == 0 && !t.f1.f2))) && ((t.f0 == 3 || t.f3 == 0) && (t.f0 != 1 || decide (t.f2.length = 0))))) = (decide ((t.f2.length : Int) > 0) || (t.f3 != 0)) := by
      rw [len_pos]
      by_cases a : t.f3 = 0 <;> by_cases b : t.f2.length = 0 <;> simp [c1, a, b, bne]
    rw [bad, e]
    exact Sim.refl _
  rw [if_neg c1, if_neg c1]
  by_cases c2 : t.f0 = 2
  · rw [if_pos c2, if_pos c2]
    refine (Sim.refl _).sq ((kvs_sim _).sq ?_)
    have e : (!((t.f0 == 1 || (decide (t.f1.f0.length = 0) && (t.f1.f1 == 0 && !t.f1.f2))) && ((t.f0 == 3 || t.f3 == 0) && (t.f0 != 1 || decide (t.f2.length = 0))))) = (decide ((decide ((t.f1.f0.length : Int) > 0) || (t.f1.f1 != 0 || t.f1.f2)) = true) || (t.f3 != 0)) := by
      rw [len_pos]
      by_cases a : t.f3 = 0 <;> by_cases b : t.f1.f0.length = 0 <;> by_cases c : t.f1.f1 = 0 <;> cases d : t.f1.f2 <;> simp [c2, a, b, c, bne]
    rw [bad, e]
    exact Sim.refl _
  rw [if_neg c2, if_neg c2]
  by_cases c3 : t.f0 = 3
  · rw [if_pos c3, if_pos c3, sq_assoc]
    refine (Sim.refl _).sq ((Sim.refl _).sq ((kvs_sim _).sq ?_))
    have e : (!((t.f0 == 1 || (decide (t.f1.f0.length = 0) && (t.f1.f1 == 0 && !t.f1.f2))) && ((t.f0 == 3 || t.f3 == 0) && (t.f0 != 1 || decide (t.f2.length = 0))))) = (decide ((t.f1.f0.length : Int) > 0) || (t.f1.f1 != 0 || t.f1.f2)) := by
      rw [len_pos]
      by_cases b : t.f1.f0.length = 0 <;> by_cases c : t.f1.f1 = 0 <;> cases d : t.f1.f2 <;> simp [c3, b, c, bne]
    rw [bad, e]
    exact Sim.refl _
  rw [if_neg c3, if_neg c3]
  exact Sim.tt (by simp [sq]) (by simp [sq])
theorem tolds_sim : ∀ l : List S27, Sim (sq (wMany wTold l) (bad (!l.all toldAloneB))) (wMany rTold l)
  | [] => Sim.refl _
  | t :: l => by
    have h := (told_sim t).sq (tolds_sim l)
    have e : sq (wMany wTold (t :: l)) (bad (!(t :: l).all toldAloneB)) = sq (sq (wTold t) (bad (!toldAloneB t))) (sq (wMany wTold l) (bad (!l.all toldAloneB))) := by
      simp only [wMany, sq, bad, List.all_cons, List.append_nil, List.append_assoc, Bool.not_and]
      congr 1
      cases (wTold t).2 <;> cases (wMany wTold l).2 <;> cases toldAloneB t <;> cases l.all toldAloneB <;> rfl
    rw [e]
    exact h
theorem toldrow_sim (l : List S27) : Sim (sq (wRow wTold l) (bad (!l.all toldAloneB))) (sq (rCount l.length) (wMany rTold l)) := by
  unfold wRow rCount
  by_cases c : 65535 < l.length
  · rw [if_pos c]
    exact Sim.tt (by simp [sq]) (by simp [sq, c])
  · rw [if_neg c, sq_assoc]
    have e : ((putB (l.length : Int) 2, decide (65535 < l.length)) : W) = wPut (l.length : Int) 2 := by simp [wPut, c]
    rw [e]
    exact (Sim.refl _).sq (tolds_sim l)
/-- Package reply's bytes behind the head. -/
def pBody (k : Int) (r : S33) : W :=
  if k = 1 ∨ k = 2 ∨ k = 3 then sq ([], r.f3.f0 != k) (wTold r.f3)
  else if k = 4 then sq (wFlag r.f4) (wRow wTold r.f5)
  else if k = 6 then sq (wNum r.f6) (wNum r.f7)
  else if k = 8 ∨ k = 13 then sq (wNum r.f6) (sq (wNum r.f7) (wFlag r.f4))
  else if k = 9 then sq (wNum r.f6) (sq (wNum r.f7) (sq (wNum r.f8) (wRow wText r.f10)))
  else if k = 10 then wRow wNum r.f9
  else if k = 11 then wNum r.f6
  else if k = 14 then wPut (IntKind.u64.wrap r.f11) 4
  else if k = 15 then sq (wNum r.f7) (wNum r.f8)
  else ([], false)
theorem pBody_eq (r : S33) : (if r.f1 = 0 then wBody r else ([], false)) = pBody (kindOf r) r := by
  unfold kindOf
  by_cases c : r.f1 = 0
  · rw [if_pos c, if_pos c]; rfl
  · rw [if_neg c, if_neg c]; rfl
theorem alone_eq (r : S33) : aloneB r = (r.f5.all toldAloneB && ((if kindOf r = 1 ∨ kindOf r = 2 ∨ kindOf r = 3 then toldAloneB r.f3 else true) && !spareB (usedT (kindOf r)) (thereT r))) := by
  have n : ∀ t u R : Bool, (!((t && !u) || R)) = ((u || !t) && !R) := fun t u R => by cases t <;> cases u <;> cases R <;> rfl
  have n' : ∀ t u : Bool, (!(t && !u)) = (u || !t) := fun t u => by cases t <;> cases u <;> rfl
  have hk : (if r.f1 = 0 then r.f0 else 0) = kindOf r := rfl
  unfold aloneB
  rw [hk]
  generalize kindOf r = k
  unfold tailB spareB usedT thereT
  simp only [n, n', len_pos', Bool.not_not]
  have b1 : (k == 4 || decide (r.f5.length = 0)) = (decide (k = 4) || decide (r.f5.length = 0)) := by rw [Bool.eq_iff_iff]; simp
  have b2 : (k == 4 || k == 8 || k == 13 || !r.f4) = (decide (k = 4 ∨ k = 8 ∨ k = 13) || !r.f4) := by rw [Bool.eq_iff_iff]; simp [or_assoc]
  have b3 : (k == 6 || k == 8 || k == 13 || k == 9 || k == 11 || decide (r.f6 = 0)) = (decide (k = 6 ∨ k = 8 ∨ k = 13 ∨ k = 9 ∨ k = 11) || !(r.f6 != 0)) := by rw [Bool.eq_iff_iff]; simp [or_assoc]
  have b4 : (k == 6 || k == 8 || k == 13 || k == 9 || k == 15 || decide (r.f7 = 0)) = (decide (k = 6 ∨ k = 8 ∨ k = 13 ∨ k = 9 ∨ k = 15) || !(r.f7 != 0)) := by rw [Bool.eq_iff_iff]; simp [or_assoc]
  have b5 : (k == 9 || k == 15 || decide (r.f8 = 0)) = (decide (k = 9 ∨ k = 15) || !(r.f8 != 0)) := by rw [Bool.eq_iff_iff]; simp [or_assoc]
  have b6 : (k == 9 || decide (r.f10.length = 0)) = (decide (k = 9) || decide (r.f10.length = 0)) := by rw [Bool.eq_iff_iff]; simp
  have b7 : (k == 10 || decide (r.f9.length = 0)) = (decide (k = 10) || decide (r.f9.length = 0)) := by rw [Bool.eq_iff_iff]; simp
  have b8 : (k == 14 || r.f11 == 0) = (decide (k = 14) || !(r.f11 != 0)) := by rw [Bool.eq_iff_iff]; simp
  rw [b1, b2, b3, b4, b5, b6, b7, b8]
  by_cases c : k = 1 ∨ k = 2 ∨ k = 3
  · rw [if_pos c, if_pos c, decide_eq_true c, Bool.true_or, Bool.true_and]
  · rw [if_neg c, if_neg c, decide_eq_false c, Bool.false_or, Bool.true_and]
theorem body_sim (r : S33) : Sim (sq (pBody (kindOf r) r) (bad (!aloneB r))) (sq (bad (spareB (usedT (kindOf r)) (thereT r))) (rBody (kindOf r) r)) := by
  rw [alone_eq]
  have f5 : spareB (usedT (kindOf r)) (thereT r) = false → kindOf r ≠ 4 → r.f5.all toldAloneB = true := by
    intro h h4
    have e : r.f5 = [] := by
      simp only [spareB, Bool.or_eq_false_iff] at h
      have h1 := h.2.1
      simp only [thereT, usedT, len_pos', decide_eq_false h4, Bool.not_false, Bool.and_true, Bool.not_eq_false', decide_eq_true_eq] at h1
      exact List.eq_nil_of_length_eq_zero h1
    rw [e]; rfl
  generalize kindOf r = k at *
  cases hs : spareB (usedT k) (thereT r)
  case true => exact Sim.tt (by simp [sq, bad]) (by simp [sq, bad])
  have hf := f5 hs
  have e0 : ∀ w : W, sq (bad false) w = w := fun w => by simp [sq, bad]
  rw [e0]
  unfold pBody rBody rFive
  by_cases k1 : k = 1 ∨ k = 2 ∨ k = 3
  · rw [if_pos k1, if_pos k1, if_pos k1, hf (by omega)]
    have h := told_sim r.f3
    have h2 : Sim (sq (sq (wTold r.f3) (bad (!toldAloneB r.f3))) ([], !decide (r.f3.f0 = k))) (sq (rTold r.f3) ([], !decide (r.f3.f0 = k))) := h.sq (Sim.refl _)
    have e : sq (sq ([], r.f3.f0 != k) (wTold r.f3)) (bad (!(true && (toldAloneB r.f3 && !false)))) = sq (sq (wTold r.f3) (bad (!toldAloneB r.f3))) ([], !decide (r.f3.f0 = k)) := by
      have d : (r.f3.f0 != k) = !decide (r.f3.f0 = k) := by rw [Bool.eq_iff_iff]; simp
      rw [d]
      simp only [sq, bad, List.append_nil, List.nil_append, Bool.true_and, Bool.not_false, Bool.and_true]
      congr 1
      cases decide (r.f3.f0 = k) <;> cases (wTold r.f3).2 <;> cases toldAloneB r.f3 <;> rfl
    rw [e]
    exact h2
  rw [if_neg k1, if_neg k1, if_neg k1]
  by_cases k4 : k = 4
  · rw [if_pos k4, if_pos k4, sq_assoc]
    refine (Sim.refl _).sq ?_
    simp only [Bool.not_false, Bool.and_true]
    exact toldrow_sim r.f5
  rw [if_neg k4, if_neg k4, hf k4]
  have e1 : ∀ w : W, sq w (bad (!(true && (true && !false)))) = w := fun w => by simp [sq, bad]
  rw [e1]
  by_cases k6 : k = 6
  · rw [if_pos k6, if_pos k6]; exact Sim.refl _
  rw [if_neg k6, if_neg k6]
  by_cases k8 : k = 8 ∨ k = 13
  · rw [if_pos k8, if_pos k8]; exact Sim.refl _
  rw [if_neg k8, if_neg k8]
  by_cases k9 : k = 9
  · rw [if_pos k9, if_pos k9]; exact (Sim.refl _).sq ((Sim.refl _).sq ((Sim.refl _).sq (row_sim _ _ text_sim _)))
  rw [if_neg k9, if_neg k9]
  by_cases k10 : k = 10
  · rw [if_pos k10, if_pos k10]; exact row_sim _ _ (fun _ => Sim.refl _) _
  rw [if_neg k10, if_neg k10]
  exact Sim.refl _
theorem reply_sim (r : S33) : Sim (sq (wReply r) (bad (!aloneB r))) (rW r) := by
  have e : sq (wReply r) (bad (!aloneB r)) = sq (head r) (sq ([], wide r) (sq (pBody (kindOf r) r) (bad (!aloneB r)))) := by
    unfold wReply head
    rw [pBody_eq]
    simp only [sq_assoc]
    rfl
  rw [e]
  exact (Sim.refl _).sq ((Sim.refl _).sq (body_sim r))
/-! ### how long the document's bytes can be -/
theorem rkv_len {x : S79} (h : x.f0.length ≤ 1048576 ∧ x.f1.length ≤ 1048576) : (rKV x).1.length ≤ 2097188 := by
  simp only [rKV, sq, List.length_append, num_len, rtext_len, List.length_nil]
  omega
theorem rkvs_len {l : List S79} (h : KVsOk l) : (rKVs l).1.length ≤ 1099530502146 := by
  have h1 := many_len rKV 2097188 l (fun x hx => rkv_len (h.2 x hx))
  have h2 : l.length * 2097188 ≤ 524288 * 2097188 := Nat.mul_le_mul_right _ h.1
  simp only [rKVs, rCount, sq, List.length_append, putB_length]
  omega
theorem rtold_len {t : S27} (h : ToldOk t) : (rTold t).1.length ≤ 1099530502200 := by
  have h1 := rkvs_len h.1
  have h2 := rkvs_len h.2
  unfold rTold rRest
  simp only [sq, List.length_append, small_len]
  split
  · simp only [List.length_append, num_len, flag_len, List.length_nil]; omega
  split
  · simp only [List.length_append, List.length_nil]; omega
  split
  · simp only [List.length_append, num_len, List.length_nil]; omega
  · simp
theorem rbody_len {r : S33} (ok : ReplyOk r) (k : Int) : (head r).1.length + (rBody k r).1.length < 140737488355328 := by
  have h1 := rtold_len ok.told
  have h2 := many_len rTold 1099530502200 r.f5 (fun t ht => rtold_len (ok.all t ht))
  have h2' : r.f5.length * 1099530502200 ≤ 50 * 1099530502200 := Nat.mul_le_mul_right _ ok.many
  have h3 := many_len rText 1048578 r.f10 (fun t ht => by have := ok.key t ht; rw [rtext_len]; omega)
  have h3' : r.f10.length * 1048578 ≤ 1048576 * 1048578 := Nat.mul_le_mul_right _ ok.keys
  have h4 := many_len wNum 8 r.f9 (fun n _ => by rw [num_len]; omega)
  have h4' := ok.ids
  have hh : (head r).1.length = 18 := by simp only [head, sq, List.length_append, num_len, small_len]
  rw [hh]
  unfold rBody rFive
  simp only [sq, rCount]
  split
  · simp only [List.length_append, List.length_nil]; omega
  split
  · simp only [List.length_append, flag_len, putB_length]; omega
  split
  · simp only [List.length_append, num_len]; omega
  split
  · simp only [List.length_append, num_len, flag_len]; omega
  split
  · simp only [List.length_append, num_len, putB_length]; omega
  split
  · simp only [List.length_append, putB_length]; omega
  split
  · rw [num_len]; omega
  split
  · simp only [wPut, putB_length]; omega
  split
  · simp only [List.length_append, num_len]; omega
  · simp
theorem kvs_ok {l : List S79} (h : Open.okSliceM 2 ok79 80 l) : KVsOk l := ⟨by have := h.2.2.2; omega, fun x hx => ⟨(h.1 x hx).1.2.2.2, (h.1 x hx).2.1.2.2.2⟩⟩
theorem told_ok {t : S27} (h : ok27 t) : ToldOk t := ⟨kvs_ok h.2.1.1, kvs_ok h.2.2.1⟩
theorem ReplyCodes : terrierlaw20_ReplyCodes.Pure := by
  intro a0 a1 a2 a3 l4 a5 a6 l7 a8 a9 l10 a11 a12 a13 l14 l15 a16 a17 hok
  generalize hx : (⟨a0, a1, a2, (⟨a3, (⟨l4, a5, a6⟩ : S25), l7, a8⟩ : S27), a9, l10, a11, a12, a13, l14, l15, a16, a17⟩ : S33) = r at hok
  suffices h : Ev (fun k => terrierlaw20_ReplyCodes.f k r.f0 r.f1 r.f2 r.f3.f0 r.f3.f1.f0 r.f3.f1.f1 r.f3.f1.f2 r.f3.f2 r.f3.f3 r.f4 r.f5 r.f6 r.f7 r.f8 r.f9 r.f10 r.f11 r.f12) true by
    subst hx
    exact h.rounds
  clear hx
  have hall := hok
  obtain ⟨_, _, _, h3, _, h5, _, _, _, h9, h10, h11, _⟩ := hall
  have t3 := told_ok h3
  have t5 : ∀ t ∈ r.f5, ToldOk t := fun t ht => told_ok (h5.1 t ht)
  have l5 := h5.2.2.2
  have l9 := h9.2.2.2
  have l10 := h10.2.2.2
  have w11 := wf_u32.1 h11
  obtain ⟨c, hc, hc2⟩ := few_ev r (by omega) (by omega) (fun t ht => ⟨by have := (t5 t ht).1.1; omega, by have := (t5 t ht).2.1; omega⟩) (by have := t3.1.1; omega) (by have := t3.2.1; omega)
  unfold terrierlaw20_ReplyCodes.f
  refine Ev.bind lives_ev (Ev.iteT rfl (Ev.bind hc ?_))
  cases c
  · refine Ev.step (fun k => by rw [terrierlaw20_ReplyCodes.j0]) ?_
    exact Ev.iteT rfl (Ev.bind lives_ev (Ev.now _))
  · have h50 := hc2 rfl
    have ok : ReplyOk r := ⟨t3, t5, h50, l9, l10, fun x hx => (h10.1 x hx).2.2.2, by omega, by omega⟩
    have e1 := Encode_ev r (by omega) (by omega) (by omega) (by have := t3.1.1; omega) (by have := t3.2.1; omega) (by have := RepL.reply_len r h50; omega)
    have e2 := rEncode_ev r ok (rbody_len ok _)
    refine Ev.step (fun k => by rw [terrierlaw20_ReplyCodes.j0]) ?_
    refine Ev.iteF (by decide) (Ev.bind e1 (Ev.bind e2 ?_))
    have sm := reply_sim r
    have ee : encE r = if (sq (wReply r) (bad (!aloneB r))).2 = true then ([], 4) else ((sq (wReply r) (bad (!aloneB r))).1, 0) := by
      unfold encE
      simp only [sq, bad, List.append_nil]
      cases (wReply r).2 <;> cases aloneB r <;> rfl
    rw [ee]
    generalize sq (wReply r) (bad (!aloneB r)) = p at sm
    by_cases b : p.2 = true
    · rw [if_pos b, show fin (rW r) = ([], false) from if_pos (sm.1 ▸ b)]
      exact Ev.iteF (by decide) (Ev.iteT rfl (Ev.now _))
    · have e := sm.2 (by simpa using b)
      rw [← e, if_neg b, show fin p = (p.1, true) from if_neg b]
      exact Ev.iteT rfl (Ev.iteT rfl (Ev.bind0 (Same_self _) (Ev.iteT rfl (Ev.now _))))
end Go.Proofs.Ytlhjdmpclfhoeaa.Pure
