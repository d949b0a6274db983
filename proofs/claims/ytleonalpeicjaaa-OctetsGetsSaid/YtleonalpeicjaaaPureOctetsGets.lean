/- What any bytes say at any place and in any size is the document's number, or its error: the plain statement that is left of the law OctetsGets, for all bytes, places and sizes. -/
import Derived.Test.YtleonalpeicjaaaOct
import Derived.Test.YtleonalpeicjaaaPSx17
namespace Go.Proofs.Ytleonalpeicjaaa.Pure
open Go.RowKit Go.Proofs.YtleonalpeicjaaaW.PrintWords Go.Proofs.YtleonalpeicjaaaW.PrintLast Go.Proofs.YtleonalpeicjaaaW.PrintMore Go.Proofs.Ytleonalpeicjaaa.PS Go.Proofs.Ytleonalpeicjaaa.Base Go.Proofs.Ytleonalpeicjaaa.Oct

theorem OctetsGets : terrierlaw01_OctetsGets.Pure := by
  intro l i s _ hl hb hi hs
  have hb := bytes_of_wf hb
  have hi := wf_i64.1 hi
  have hs := wf_i64.1 hs
  refine Ev.rounds ?_
  unfold terrierlaw01_OctetsGets.f
  refine Ev.bind0 (Twin_eq (by omega)) ?_
  refine Ev.bind (Get_ev l i s hb (by omega) hi.1 hi.2 hs.1 hs.2) ?_
  refine Ev.bind (refGet_ev l i s hb (by omega) hi.1 hi.2 hs.1 hs.2) ?_
  refine Ev.bind (Get_ev [1, 2] 0 2 (by intro x hx; simp at hx; omega) (by simp) (by omega) (by omega) (by omega) (by omega)) ?_
  refine Ev.iteT rfl (Ev.iteT rfl (Ev.bind0 (Same_self _) (Ev.iteT rfl (Ev.iteT (by decide) ?_))))
  exact Ev.now _

end Go.Proofs.Ytleonalpeicjaaa.Pure
