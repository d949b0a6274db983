/- Of any record it is told whether it may be kept, and its bytes, and a tombstone's: the plain statement that is left of the law RecordCodes, for every record. -/
import Derived.Test.YtapmgeofbjgalaaOct
import Derived.Test.YtapmgeofbjgalaaRec
import Derived.Test.YtapmgeofbjgalaaPSx20
namespace Go.Proofs.Ytapmgeofbjgalaa.Pure
open Go.RowKit Go.Proofs.YtapmgeofbjgalaaW.PrintWords Go.Proofs.YtapmgeofbjgalaaW.PrintLast Go.Proofs.YtapmgeofbjgalaaW.PrintMore Go.Proofs.Ytapmgeofbjgalaa.PS Go.Proofs.Ytapmgeofbjgalaa.Base Go.Proofs.Ytapmgeofbjgalaa.Oct Go.Proofs.Ytapmgeofbjgalaa.Rec
theorem RecordCodes : terrierlaw13_RecordCodes.Pure := by
  intro k v c m n l hk
  obtain ⟨⟨hk1, hk2, _⟩, ⟨hv1, hv2, _⟩, _⟩ := hk
  have hbk := bytes_of_wf hk1
  have hbv := bytes_of_wf hv1
  have hthen : ∀ b : Bool, b = true → Ev (fun q => terrierlaw13_RecordCodes.j0 q b k v c m n l) true := fun b hb => by
    subst hb
    exact Ev.step (fun q => by rw [terrierlaw13_RecordCodes.j0]) (Ev.iteT rfl (Ev.bind lives_ev (Ev.now _)))
  refine Ev.rounds ?_
  unfold terrierlaw13_RecordCodes.f
  refine Ev.bind lives_ev (Ev.iteT rfl (Ev.bind0 (few_eq k v c m n l) ?_))
  by_cases hf : k.length ≤ 200 ∧ v.length ≤ 2000
  · rw [decide_eq_true hf]
    refine Ev.step (fun q => by rw [terrierlaw13_RecordCodes.j0]) (Ev.iteF (by decide) ?_)
    refine Ev.bind0 (refTwin_eq (by omega) (by omega) c m n l) (Ev.bind (Encode_ev k v c m n l) (Ev.bind (Tomb_ev k) (Ev.bind0 (refRight_eq k v c m n l) ?_)))
    have hend : ∀ (nm : Bool), nm = decide (Named k) → Ev (fun q => terrierlaw13_RecordCodes.j1 q (if RightP k v c m n l then (recE k v c m n l, (0 : Int)) else ([], 4)).1 (if RightP k v c m n l then (recE k v c m n l, (0 : Int)) else ([], 4)).2 (if Named k then (tombE k, (0 : Int)) else ([], 4)).1 (if Named k then (tombE k, (0 : Int)) else ([], 4)).2 (decide (RightP k v c m n l)) nm k v c m n l k v c m n l) true := by
      intro nm hnm
      subst hnm
      refine Ev.step (fun q => by rw [terrierlaw13_RecordCodes.j1]) (Ev.bind0 (Right_eq k v c m n l) ?_)
      rw [bne_self_eq_false]
      refine Ev.iteF (by decide) (Ev.bind0 (refSame_eq hbk hbv hbk hbv c m n l c m n l) ?_)
      rw [sameR_self]
      refine Ev.step (fun q => by rw [terrierlaw13_RecordCodes.j2]) (Ev.iteF (by decide) ?_)
      by_cases hR : RightP k v c m n l
      · have hN : Named k := hR.1
        rw [if_pos hR, if_pos hN, decide_eq_true hR, decide_eq_true hN]
        refine Ev.iteT rfl (Ev.iteT rfl (Ev.bind (refEncode_ev k v c m n l hR) (Ev.bind0 (Same_self _) (Ev.iteT rfl (Ev.iteT rfl (Ev.iteT rfl (Ev.bind (refTomb_ev k (by omega)) (Ev.bind0 (Same_self _) (Ev.iteT rfl ?_)))))))))
        exact Ev.now _
      · rw [if_neg hR, decide_eq_false hR]
        refine Ev.iteF (by decide) (Ev.iteT rfl (Ev.iteT rfl ?_))
        by_cases hN : Named k
        · rw [if_pos hN, decide_eq_true hN]
          refine Ev.iteT rfl (Ev.iteT rfl (Ev.bind (refTomb_ev k (by omega)) (Ev.bind0 (Same_self _) (Ev.iteT rfl ?_))))
          exact Ev.now _
        · rw [if_neg hN, decide_eq_false hN]
          refine Ev.iteF (by decide) (Ev.iteT rfl ?_)
          exact Ev.now _
    by_cases h1 : (k.length : Int) ≥ 1
    · refine Ev.iteT h1 (hend _ (decide_eq_decide.2 (by unfold Named; omega)))
    · refine Ev.iteF h1 (hend _ (decide_eq_false (by unfold Named; omega)).symm)
  · exact hthen _ (by simp [hf])
end Go.Proofs.Ytapmgeofbjgalaa.Pure
