/- Bytes are sealed as the document says, and any bytes are a sealed row, or are not, as it says: the plain statement that is left of the law SumSeals, for all bytes. -/
import Derived.Test.YtmaoppljldllfaaOct
import Derived.Test.YtmaoppljldllfaaCrc
import Derived.Test.YtmaoppljldllfaaSum
import Derived.Test.YtmaoppljldllfaaPSx16
namespace Go.Proofs.Ytmaoppljldllfaa.Pure
open Go.RowKit Go.Proofs.YtmaoppljldllfaaW.PrintWords Go.Proofs.YtmaoppljldllfaaW.PrintLast Go.Proofs.YtmaoppljldllfaaW.PrintMore Go.Proofs.Ytmaoppljldllfaa.PS Go.Proofs.Ytmaoppljldllfaa.Base Go.Proofs.Ytmaoppljldllfaa.Oct Go.Proofs.Ytmaoppljldllfaa.Crc Go.Proofs.Ytmaoppljldllfaa.Sum
theorem SumSeals : terrierlaw02_SumSeals.Pure := by
  intro l _ hl hb
  have hb := bytes_of_wf hb
  refine Ev.rounds ?_
  unfold terrierlaw02_SumSeals.f
  refine Ev.bind lives_ev (Ev.iteT rfl ?_)
  by_cases c : (l.length : Int) > 4096
  · rw [decide_eq_true c]
    refine Ev.step (fun k => by rw [terrierlaw02_SumSeals.j0]) (Ev.iteT rfl (Ev.bind lives_ev (Ev.now _)))
  · rw [decide_eq_false c]
    refine Ev.step (fun k => by rw [terrierlaw02_SumSeals.j0]) (Ev.iteF (by decide) ?_)
    refine Ev.bind0 (Twin_eq (by omega)) (Ev.bind (Seal_ev l hb (by omega)) (Ev.bind (Open_ev l hb (by omega)) ?_))
    refine Ev.bind (refOpen_ev l hb (by omega)) (Ev.bind (refSeal_ev l hb (by omega)) ?_)
    exact Ev.bind0 (Same_self _) (Ev.iteT rfl (Ev.bind0 (Same_self _) (Ev.iteT rfl (Ev.iteT rfl (Ev.bind0 (Same_self _) (Ev.now _))))))
end Go.Proofs.Ytmaoppljldllfaa.Pure
