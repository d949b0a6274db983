/- Two revisions are held against one another as the document says, and their bytes come in that order: the plain statement that is left of the law RevOrders, for all revisions. -/
import Derived.Test.YtcpapgfglgaogaaOct
import Derived.Test.YtcpapgfglgaogaaRev
import Derived.Test.YtcpapgfglgaogaaPSx32
namespace Go.Proofs.Ytcpapgfglgaogaa.Pure
open Go.RowKit Go.Proofs.YtcpapgfglgaogaaW.PrintWords Go.Proofs.YtcpapgfglgaogaaW.PrintLast Go.Proofs.YtcpapgfglgaogaaW.PrintMore Go.Proofs.Ytcpapgfglgaogaa.PS Go.Proofs.Ytcpapgfglgaogaa.Base Go.Proofs.Ytcpapgfglgaogaa.Oct Go.Proofs.Ytcpapgfglgaogaa.Rev
theorem RevOrders : terrierlaw10_RevOrders.Pure := by
  intro a b c d s t _ _
  refine Ev.rounds ?_
  unfold terrierlaw10_RevOrders.f
  refine Ev.bind lives_ev (Ev.iteT rfl (Ev.bind (Compare_ev a b c d) (Ev.bind0 (refAhead_eq a b c d) ?_)))
  have k1 : decide (cmpR a b c d < 0) = decide (a < c ∨ a = c ∧ b < d) := by
    apply decide_eq_decide.2
    unfold cmpR
    split
    · omega
    · split
      · omega
      · split
        · omega
        · split <;> omega
  have k2 : decide (cmpR a b c d > 0) = decide (c < a ∨ c = a ∧ d < b) := by
    apply decide_eq_decide.2
    unfold cmpR
    split
    · omega
    · split
      · omega
      · split
        · omega
        · split <;> omega
  have k3 : cmpR a b c d = -1 ∨ cmpR a b c d = 0 ∨ cmpR a b c d = 1 := by
    unfold cmpR
    split
    · simp
    · split
      · simp
      · split
        · simp
        · split <;> simp
  refine Ev.iteF (by simp [k1]) (Ev.bind0 (refAhead_eq c d a b) (Ev.iteF (by simp [k2]) (Ev.iteF (by omega) ?_)))
  rw [decide_eq_false (by omega)]
  refine Ev.step (fun k => by rw [terrierlaw10_RevOrders.j0]) ?_
  refine Ev.iteF (by simp) (Ev.bind (Encode_ev a b s) (Ev.bind (Encode_ev c d t) ?_))
  by_cases p : RightP a b
  · rw [if_pos p]
    refine Ev.iteT rfl ?_
    by_cases q : RightP c d
    · rw [if_pos q]
      refine Ev.iteT rfl ?_
      by_cases z : cmpR a b c d = 0
      · exact Ev.iteT z (Ev.now _)
      · refine Ev.iteF z (Ev.bind0 (Compare_eq (encE_bytes _ _ _) (encE_bytes _ _ _)) (Ev.eq (Ev.now _) ?_))
        obtain ⟨p1, p2, p3, p4⟩ := p
        obtain ⟨q1, q2, q3, q4⟩ := q
        unfold encE
        rw [cmp_plain _ _ (by omega) (by omega) (by omega) (by omega) (by omega) (by omega) (by omega) (by omega)]
        unfold cmpR at z ⊢
        split
        · simp
        · split
          · simp
          · split
            · simp
            · split
              · simp
              · simp_all
    · rw [if_neg q]
      exact Ev.iteF (by simp) (Ev.now _)
  · rw [if_neg p]
    exact Ev.iteF (by simp) (Ev.now _)

end Go.Proofs.Ytcpapgfglgaogaa.Pure
