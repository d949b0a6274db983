/- What is sealed is opened: the plain statement that is left of the law SumBack, for all bytes. -/
import Derived.Test.YtmaoppljldllfaaOct
import Derived.Test.YtmaoppljldllfaaCrc
import Derived.Test.YtmaoppljldllfaaSum
import Derived.Test.YtmaoppljldllfaaPSx17
namespace Go.Proofs.Ytmaoppljldllfaa.Pure
open Go.RowKit Go.Proofs.YtmaoppljldllfaaW.PrintWords Go.Proofs.YtmaoppljldllfaaW.PrintLast Go.Proofs.YtmaoppljldllfaaW.PrintMore Go.Proofs.Ytmaoppljldllfaa.PS Go.Proofs.Ytmaoppljldllfaa.Base Go.Proofs.Ytmaoppljldllfaa.Oct Go.Proofs.Ytmaoppljldllfaa.Crc Go.Proofs.Ytmaoppljldllfaa.Sum
theorem SumBack : terrierlaw02_SumBack.Pure := by
  intro l _ hl hb
  have hb := bytes_of_wf hb
  refine Ev.rounds ?_
  unfold terrierlaw02_SumBack.f
  refine Ev.bind lives_ev (Ev.iteT rfl ?_)
  by_cases c : (l.length : Int) > 4096
  · rw [decide_eq_true c]
    refine Ev.step (fun k => by rw [terrierlaw02_SumBack.j0]) (Ev.iteT rfl (Ev.bind lives_ev (Ev.now _)))
  · rw [decide_eq_false c]
    refine Ev.step (fun k => by rw [terrierlaw02_SumBack.j0]) (Ev.iteF (by decide) ?_)
    refine Ev.bind (Seal_ev l hb (by omega)) (Ev.bind (Open_ev (sealB l) (seal_bytes hb) (by rw [seal_length]; omega)) ?_)
    rw [open_seal hb]
    exact Ev.iteT rfl (Ev.bind0 (Same_self l) (Ev.now _))
end Go.Proofs.Ytmaoppljldllfaa.Pure
