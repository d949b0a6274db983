/- The end of a prefix's range is the document's, and whether a key is in a range is as it says: the plain statement that is left of the law OctetsRanges, for all keys, prefixes and ends. -/
import Derived.Test.YtleonalpeicjaaaOct
import Derived.Test.YtleonalpeicjaaaPSx26
namespace Go.Proofs.Ytleonalpeicjaaa.Pure
open Go.RowKit Go.Proofs.YtleonalpeicjaaaW.PrintWords Go.Proofs.YtleonalpeicjaaaW.PrintLast Go.Proofs.YtleonalpeicjaaaW.PrintMore Go.Proofs.Ytleonalpeicjaaa.PS Go.Proofs.Ytleonalpeicjaaa.Base Go.Proofs.Ytleonalpeicjaaa.Oct
theorem OctetsRanges : terrierlaw01_OctetsRanges.Pure := by
  intro k key e _ hk wk _ hy wy _ he we
  have wk := bytes_of_wf wk
  have wy := bytes_of_wf wy
  have we := bytes_of_wf we
  refine Ev.rounds ?_
  unfold terrierlaw01_OctetsRanges.f
  refine Ev.bind0 (Twin_eq (by omega)) (Ev.bind (End_ev key wy (by omega)) (Ev.bind (refEnd_ev key wy (by omega)) ?_))
  refine Ev.bind0 (Same_self _) (Ev.iteT rfl (Ev.bind0 (Same_self _) ?_))
  refine Ev.step (fun n => by rw [terrierlaw01_OctetsRanges.j0]) ?_
  have ne : 0 < ((endB key).length : Int) := by
    have : endB key ≠ [] := by
      unfold endB
      cases h : endF key with
      | none => simp
      | some x => exact (endF_some key x wy h).1
    have : 0 < (endB key).length := List.length_pos_iff.2 this
    omega
  refine Ev.iteF (by simp) (Ev.iteT ne (Ev.bind0 (Same_self _) (Ev.iteT rfl ?_)))
  refine Ev.bind (In_ev k key e wk wy we) (Ev.bind (refIn_ev k key e wk wy we (by omega) (by omega)) ?_)
  exact Ev.eq (Ev.now _) (by simp)

end Go.Proofs.Ytleonalpeicjaaa.Pure
