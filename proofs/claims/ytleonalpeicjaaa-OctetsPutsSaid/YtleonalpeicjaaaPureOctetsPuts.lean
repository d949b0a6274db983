/- A number's bytes in any size are the document's, or it is refused: the plain statement that is left of the law OctetsPuts, for every number and size. -/
import Derived.Test.YtleonalpeicjaaaOct
import Derived.Test.YtleonalpeicjaaaPSx13
namespace Go.Proofs.Ytleonalpeicjaaa.Pure
open Go.RowKit Go.Proofs.YtleonalpeicjaaaW.PrintWords Go.Proofs.YtleonalpeicjaaaW.PrintLast Go.Proofs.YtleonalpeicjaaaW.PrintMore Go.Proofs.Ytleonalpeicjaaa.PS Go.Proofs.Ytleonalpeicjaaa.Base Go.Proofs.Ytleonalpeicjaaa.Oct

theorem OctetsPuts : terrierlaw01_OctetsPuts.Pure := by
  intro n s hn hs
  have hn := wf_u64.1 hn
  have hs := wf_i64.1 hs
  refine Ev.rounds ?_
  unfold terrierlaw01_OctetsPuts.f
  refine Ev.bind (Put_ev n s hn.1 (by omega) hs.1 hs.2) ?_
  unfold putE
  by_cases c1 : s < 1
  · rw [if_pos (Or.inl c1)]
    refine Ev.iteT c1 (Ev.step (fun k => by rw [terrierlaw01_OctetsPuts.j0]) ?_)
    refine Ev.iteT rfl (Ev.iteT rfl ?_)
    exact Ev.now _
  refine Ev.iteF c1 ?_
  by_cases c2 : 8 < s
  · rw [if_pos (Or.inr c2), decide_eq_true (show s > 8 from c2)]
    refine Ev.step (fun k => by rw [terrierlaw01_OctetsPuts.j0]) ?_
    refine Ev.iteT rfl (Ev.iteT rfl ?_)
    exact Ev.now _
  rw [if_neg (by omega), decide_eq_false (show ¬ s > 8 from c2)]
  refine Ev.step (fun k => by rw [terrierlaw01_OctetsPuts.j0]) ?_
  refine Ev.iteF (by simp) (Ev.bind (refFits_ev n s hn.1 (by omega) (by omega) hs.2) ?_)
  by_cases c3 : n / 256 ^ s.toNat = 0
  · rw [if_neg (by simpa using c3)]
    refine Ev.iteT (by simp [c3]) (Ev.iteT rfl (Ev.bind (refPut_ev n s hn.1 (by omega) (by omega) (by omega)) ?_))
    refine Ev.bind0 (Same_self _) (Ev.now _)
  · rw [if_pos c3]
    refine Ev.iteF (by simp [c3]) (Ev.iteT rfl ?_)
    exact Ev.now _

end Go.Proofs.Ytleonalpeicjaaa.Pure
