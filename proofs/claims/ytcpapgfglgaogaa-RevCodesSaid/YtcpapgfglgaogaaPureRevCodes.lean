/- Of any revision it is told whether it is right, and its bytes: the plain statement that is left of the law RevCodes, for every revision. -/
import Derived.Test.YtcpapgfglgaogaaOct
import Derived.Test.YtcpapgfglgaogaaRev
import Derived.Test.YtcpapgfglgaogaaPSx12
namespace Go.Proofs.Ytcpapgfglgaogaa.Pure
open Go.RowKit Go.Proofs.YtcpapgfglgaogaaW.PrintWords Go.Proofs.YtcpapgfglgaogaaW.PrintLast Go.Proofs.YtcpapgfglgaogaaW.PrintMore Go.Proofs.Ytcpapgfglgaogaa.PS Go.Proofs.Ytcpapgfglgaogaa.Base Go.Proofs.Ytcpapgfglgaogaa.Oct Go.Proofs.Ytcpapgfglgaogaa.Rev
theorem RevCodes : terrierlaw10_RevCodes.Pure := by
  intro m s t _
  refine Ev.rounds ?_
  unfold terrierlaw10_RevCodes.f
  refine Ev.bind lives_ev (Ev.iteT rfl (Ev.bind (Encode_ev m s t) (Ev.bind0 (refRight_eq m s) (Ev.bind0 (Right_eq m s) (Ev.iteT (by simp) ?_)))))
  by_cases c : RightP m s
  · rw [if_pos c]
    have c' := c
    obtain ⟨h1, h2, h3, h4⟩ := c'
    refine Ev.iteT (by simp [c]) (Ev.iteT rfl (Ev.bind (refEncode_ev t (by omega) (by omega) (by omega) (by omega)) (Ev.bind0 (Same_self _) (Ev.iteT rfl ?_))))
    exact Ev.now _
  · rw [if_neg c]
    refine Ev.iteF (by simp [c]) (Ev.iteT rfl ?_)
    exact Ev.now _

end Go.Proofs.Ytcpapgfglgaogaa.Pure
