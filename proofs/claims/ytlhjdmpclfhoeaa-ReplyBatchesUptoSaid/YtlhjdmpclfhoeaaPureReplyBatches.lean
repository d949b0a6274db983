/- Of any batch, of the bulk that the second form asks for, it is told whether it can be coded, and its bytes, as the document says: the plain statement that is left of the law ReplyBatches. -/
import Derived.Test.YtlhjdmpclfhoeaaRepBReplyBatches
import Derived.Test.YtlhjdmpclfhoeaaPJx13
import Derived.Test.YtlhjdmpclfhoeaaPJx8
import Derived.Test.YtlhjdmpclfhoeaaPJx9
set_option linter.unusedSimpArgs false
namespace Go.Proofs.Ytlhjdmpclfhoeaa.Pure
open Go.RowKit Go.Proofs.YtlhjdmpclfhoeaaW.PrintWords Go.Proofs.YtlhjdmpclfhoeaaW.PrintLast Go.Proofs.YtlhjdmpclfhoeaaW.PrintMore Go.Proofs.Ytlhjdmpclfhoeaa.PJ Go.Proofs.Ytlhjdmpclfhoeaa.Base Go.Proofs.Ytlhjdmpclfhoeaa.Oct Go.Proofs.Ytlhjdmpclfhoeaa.RdE Go.Proofs.Ytlhjdmpclfhoeaa.Rep Go.Proofs.Ytlhjdmpclfhoeaa.RepB

theorem lives_ev : Ev (fun k => terrierlaw20_lives.f k) true := by
  unfold terrierlaw20_lives.f
  have e : encE ⟨5, 0, 7, ⟨0, ⟨[], 0, false⟩, [], 0⟩, false, [], 0, 0, 0, [], [], 0, 0⟩ = ([5, 0, 0, 0, 0, 0, 0, 0, 0, 7, 0, 0, 0, 0, 0, 0, 0, 0], 0) := by decide
  have he := Encode_ev ⟨5, 0, 7, ⟨0, ⟨[], 0, false⟩, [], 0⟩, false, [], 0, 0, 0, [], [], 0, 0⟩ (by decide) (by decide) (by decide) (by decide) (by decide) (by decide)
  rw [e] at he
  refine Ev.bind he ?_
  exact Ev.iteT rfl (Ev.iteT rfl (Ev.iteT (by decide) (Ev.iteT rfl (Ev.iteT (by decide) (Ev.now _)))))
theorem kvs_tot (l : List S79) (_hl : l.length ≤ 140737488355328) : ∃ v, Ev (fun k => terrierlaw20_kvs.f k l) v := by
  have key : ∀ (d i : Nat) (x : Int), i + d = l.length → ∃ v, Ev (fun k => terrierlaw20_kvs.l0 k x l (l.length : Int) i) v := by
    intro d
    induction d with
    | zero =>
      intro i x hi
      refine ⟨x, Ev.step (fun k => by rw [terrierlaw20_kvs.l0]) ?_⟩
      exact Ev.iteF (by omega) (Ev.now _)
    | succ d ih =>
      intro i x hi
      by_cases c : (i : Int) > 100
      · refine ⟨7000, Ev.step (fun k => by rw [terrierlaw20_kvs.l0]) ?_⟩
        exact Ev.iteT (by omega) (Ev.iteT (by omega) (Ev.iteT (by omega) (Ev.iteT c (Ev.now _))))
      by_cases c2 : (wrap64 (x + ((50 + (mn (((rd_T79 l i).f0).length : Int) 5000)) + (mn (((rd_T79 l i).f1).length : Int) 5000)))) > 6000
      · refine ⟨7000, Ev.step (fun k => by rw [terrierlaw20_kvs.l0]) ?_⟩
        exact Ev.iteT (by omega) (Ev.iteT (by omega) (Ev.iteT (by omega) (Ev.iteF c (Ev.iteT c2 (Ev.now _)))))
      obtain ⟨v, hv⟩ := ih (i + 1) (wrap64 (x + ((50 + (mn (((rd_T79 l i).f0).length : Int) 5000)) + (mn (((rd_T79 l i).f1).length : Int) 5000)))) (by omega)
      refine ⟨v, Ev.step (fun k => by rw [terrierlaw20_kvs.l0]) ?_⟩
      refine Ev.iteT (by omega) (Ev.iteT (by omega) (Ev.iteT (by omega) (Ev.iteF c (Ev.iteF c2 ?_))))
      rw [wrapInc (by omega)]
      exact hv
  exact key l.length 0 0 (by omega)
theorem few_ev (x : S44) (hl : x.f1.length ≤ 140737488355328) : ∃ c, Ev (fun k => terrierlaw20_fewBatch.f k x.f0 x.f1 x.f2 x.f3 x.f4 x.f5) c ∧ (c = true → x.f1.length ≤ 51) := by
  have key : ∀ (d i : Nat) (n : Int), i + d = x.f1.length → i ≤ 51 → ∃ c, Ev (fun k => terrierlaw20_fewBatch.l0 k n x.f1 (x.f1.length : Int) i) c ∧ (c = true → x.f1.length ≤ 51) := by
    intro d
    induction d with
    | zero =>
      intro i n hi h51
      refine ⟨true, Ev.step (fun k => by rw [terrierlaw20_fewBatch.l0]) ?_, fun _ => by omega⟩
      exact Ev.iteF (by omega) (Ev.now _)
    | succ d ih =>
      intro i n hi h51
      obtain ⟨v, hv⟩ := kvs_tot [(⟨(rd_T81 x.f1 i).f1.f0, (rd_T81 x.f1 i).f1.f1, (rd_T81 x.f1 i).f1.f2, (rd_T81 x.f1 i).f1.f3, (rd_T81 x.f1 i).f1.f4, (rd_T81 x.f1 i).f1.f5⟩ : S79), (⟨(rd_T81 x.f1 i).f3.f0, (rd_T81 x.f1 i).f3.f1, (rd_T81 x.f1 i).f3.f2, (rd_T81 x.f1 i).f3.f3, (rd_T81 x.f1 i).f3.f4, (rd_T81 x.f1 i).f3.f5⟩ : S79)] (by simp)
      by_cases c : (i : Int) > 50
      · refine ⟨false, Ev.step (fun k => by rw [terrierlaw20_fewBatch.l0]) ?_, fun h => by cases h⟩
        exact Ev.iteT (by omega) (Ev.iteT (by omega) (Ev.iteT (by omega) (Ev.bind hv (Ev.iteT c (Ev.now _)))))
      by_cases c2 : wrap64 (n + v) > 7000
      · refine ⟨false, Ev.step (fun k => by rw [terrierlaw20_fewBatch.l0]) ?_, fun h => by cases h⟩
        exact Ev.iteT (by omega) (Ev.iteT (by omega) (Ev.iteT (by omega) (Ev.bind hv (Ev.iteF c (Ev.iteT c2 (Ev.now _))))))
      obtain ⟨b, hb, hb2⟩ := ih (i + 1) (wrap64 (n + v)) (by omega) (by omega)
      refine ⟨b, Ev.step (fun k => by rw [terrierlaw20_fewBatch.l0]) ?_, hb2⟩
      refine Ev.iteT (by omega) (Ev.iteT (by omega) (Ev.iteT (by omega) (Ev.bind hv (Ev.iteF c (Ev.iteF c2 ?_)))))
      rw [wrapInc (by omega)]
      exact hb
  exact key x.f1.length 0 0 (by omega) (by omega)
theorem texts_of {y : S81} (h : ok81 y) : TextsOk y := ⟨⟨h.2.1.1.2.2.2, h.2.1.2.1.2.2.2⟩, h.2.2.2.1.2.2.2, h.2.2.2.2.1.2.2.2⟩
theorem ReplyBatches : terrierlaw20_ReplyBatches.Pure := by
  intro a0 l1 a2 a3 a4 a5 hok
  generalize hx : (⟨a0, l1, a2, a3, a4, a5⟩ : S44) = x at hok
  have h0 := congrArg S44.f0 hx
  have h1 := congrArg S44.f1 hx
  have h2 := congrArg S44.f2 hx
  have h3 := congrArg S44.f3 hx
  have h4 := congrArg S44.f4 hx
  have h5 := congrArg S44.f5 hx
  simp only at h0 h1 h2 h3 h4 h5
  subst h0 h1 h2 h3 h4 h5
  clear hx
  have hl : x.f1.length ≤ 1048576 := hok.2.1.2.2.2
  have ht : ∀ y ∈ x.f1, TextsOk y := fun y hy => texts_of (hok.2.1.1 y hy)
  obtain ⟨c, hc, hc2⟩ := few_ev x (by omega)
  suffices h : Ev (fun k => terrierlaw20_ReplyBatches.f k x.f0 x.f1 x.f2 x.f3 x.f4 x.f5) true from h.rounds
  unfold terrierlaw20_ReplyBatches.f
  refine Ev.bind lives_ev (Ev.iteT rfl (Ev.bind hc ?_))
  cases c
  · refine Ev.step (fun k => by rw [terrierlaw20_ReplyBatches.j0]) ?_
    exact Ev.iteT rfl (Ev.bind lives_ev (Ev.now _))
  · have h51 := hc2 rfl
    have e1 := EncodeBatch_ev x (batch_len x)
    have e2 := rEncodeBatch_ev x (by omega) ht (rbatch_len x (by omega) ht)
    refine Ev.step (fun k => by rw [terrierlaw20_ReplyBatches.j0]) ?_
    refine Ev.iteF (by decide) (Ev.bind e1 (Ev.bind e2 ?_))
    have sm := batch_sim x
    by_cases bad : (wBatch x).2 = true
    · rw [show encB x = ([], 4) from if_pos bad, show fin (rBatch x) = ([], false) from if_pos (sm.1 ▸ bad)]
      exact Ev.iteF (by decide) (Ev.iteT rfl (Ev.now _))
    · have e := sm.2 (by simpa using bad)
      rw [← e, show encB x = ((wBatch x).1, 0) from if_neg bad, show fin (wBatch x) = ((wBatch x).1, true) from if_neg bad]
      exact Ev.iteT rfl (Ev.iteT rfl (Ev.bind0 (Same_self _) (Ev.iteT rfl (Ev.now _))))
end Go.Proofs.Ytlhjdmpclfhoeaa.Pure
