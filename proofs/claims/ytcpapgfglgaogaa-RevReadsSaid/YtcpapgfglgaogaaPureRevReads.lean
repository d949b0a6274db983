/- Any bytes are the revision that the document says, or none's: the plain statement that is left of the law RevReads, for all bytes. -/
import Derived.Test.YtcpapgfglgaogaaOct
import Derived.Test.YtcpapgfglgaogaaRev
import Derived.Test.YtcpapgfglgaogaaPSx25
namespace Go.Proofs.Ytcpapgfglgaogaa.Pure
open Go.RowKit Go.Proofs.YtcpapgfglgaogaaW.PrintWords Go.Proofs.YtcpapgfglgaogaaW.PrintLast Go.Proofs.YtcpapgfglgaogaaW.PrintMore Go.Proofs.Ytcpapgfglgaogaa.PS Go.Proofs.Ytcpapgfglgaogaa.Base Go.Proofs.Ytcpapgfglgaogaa.Oct Go.Proofs.Ytcpapgfglgaogaa.Rev
theorem RevReads : terrierlaw10_RevReads.Pure := by
  intro l _ hl hb
  have hb := bytes_of_wf hb
  refine Ev.rounds ?_
  unfold terrierlaw10_RevReads.f
  refine Ev.bind lives_ev (Ev.iteT rfl ?_)
  refine Ev.step (fun k => by rw [terrierlaw10_RevReads.j0]) ?_
  by_cases c : (l.length : Int) > 100
  · exact Ev.iteT (by simp [c]) (Ev.bind lives_ev (Ev.now _))
  refine Ev.iteF (by simp [c]) (Ev.bind0 (Twin_eq (by omega)) (Ev.bind (Decode_ev hb (by omega)) (Ev.bind (refDecode_ev hb (by omega)) ?_)))
  refine Ev.iteT (by simp) (Ev.iteT (by simp) ?_)
  by_cases d : (decE l).2.2.2 = true
  · refine Ev.iteT d (Ev.iteT (by simp [d]) (Ev.bind0 (Same_self _) ?_))
    exact Ev.now _
  · refine Ev.iteF d (Ev.iteT (by simp [d]) (Ev.bind0 (Same_self _) ?_))
    exact Ev.now _

end Go.Proofs.Ytcpapgfglgaogaa.Pure
