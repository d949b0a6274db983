/- A revision comes back from its bytes: the plain statement that is left of the law RevBack, for every revision. -/
import Derived.Test.YtcpapgfglgaogaaOct
import Derived.Test.YtcpapgfglgaogaaRev
import Derived.Test.YtcpapgfglgaogaaPSx26
namespace Go.Proofs.Ytcpapgfglgaogaa.Pure
open Go.RowKit Go.Proofs.YtcpapgfglgaogaaW.PrintWords Go.Proofs.YtcpapgfglgaogaaW.PrintLast Go.Proofs.YtcpapgfglgaogaaW.PrintMore Go.Proofs.Ytcpapgfglgaogaa.PS Go.Proofs.Ytcpapgfglgaogaa.Base Go.Proofs.Ytcpapgfglgaogaa.Oct Go.Proofs.Ytcpapgfglgaogaa.Rev
theorem RevBack : terrierlaw10_RevBack.Pure := by
  intro m s t _
  refine Ev.rounds ?_
  unfold terrierlaw10_RevBack.f
  refine Ev.bind lives_ev (Ev.iteT rfl (Ev.bind (Encode_ev m s t) ?_))
  by_cases c : RightP m s
  · rw [if_pos c]
    refine Ev.iteT rfl (Ev.bind (Decode_ev (encE_bytes _ _ _) (by rw [encE_length]; cases t <;> simp)) ?_)
    rw [decE_encE t c]
    refine Ev.iteT rfl (Ev.iteT (by simp) ?_)
    exact Ev.eq (Ev.now _) (by simp)
  · rw [if_neg c]
    refine Ev.iteF (by simp) (Ev.bind0 (Right_eq m s) ?_)
    exact Ev.eq (Ev.now _) (by simp [c])

end Go.Proofs.Ytcpapgfglgaogaa.Pure
