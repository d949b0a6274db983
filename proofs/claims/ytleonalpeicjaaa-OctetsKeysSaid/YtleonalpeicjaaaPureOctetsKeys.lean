/- Two keys are held against one another, and what they have in common is told, as the document says: the plain statement that is left of the law OctetsKeys, for any two keys. -/
import Derived.Test.YtleonalpeicjaaaOct
import Derived.Test.YtleonalpeicjaaaPSx8
namespace Go.Proofs.Ytleonalpeicjaaa.Pure
open Go.RowKit Go.Proofs.YtleonalpeicjaaaW.PrintWords Go.Proofs.YtleonalpeicjaaaW.PrintLast Go.Proofs.YtleonalpeicjaaaW.PrintMore Go.Proofs.Ytleonalpeicjaaa.PS Go.Proofs.Ytleonalpeicjaaa.Base Go.Proofs.Ytleonalpeicjaaa.Oct
theorem OctetsKeys : terrierlaw01_OctetsKeys.Pure := by
  intro a b _ ha hwa _ hb hwb
  have hwa := bytes_of_wf hwa
  have hwb := bytes_of_wf hwb
  have le := comm_le a b
  have hfin : ∀ x : Bool, x = false → Ev (fun k => terrierlaw01_OctetsKeys.j0 k a b x) true := fun x hx => by
    subst hx
    refine Ev.step (fun k => by rw [terrierlaw01_OctetsKeys.j0]) (Ev.iteF (by decide) ?_)
    refine Ev.bind0 (Compare_eq hwa hwb) (Ev.bind (refCompare_ev a b (by omega) (by omega)) (Ev.iteT rfl ?_))
    refine Ev.bind0 (Compare_eq (l := [97]) (m := [97, 98]) (by intro x hx; simp at hx; omega) (by intro x hx; simp at hx; omega)) ?_
    have e : cmpB [97] [97, 98] = -1 := by decide
    rw [e]
    exact Ev.now _
  refine Ev.rounds ?_
  unfold terrierlaw01_OctetsKeys.f
  refine Ev.bind (Common_ev a b (by omega)) ?_
  refine Ev.iteF (by omega) (Ev.iteF (by omega) (Ev.iteF (by omega) (Ev.iteT (by omega) (Ev.iteT (by omega) (Ev.iteT (by omega) ?_)))))
  rw [Int.toNat_natCast, ← comm_take a b]
  refine Ev.bind0 (Same_self _) (Ev.iteT rfl ?_)
  by_cases c1 : ((comm a b : Nat) : Int) < (a.length : Int)
  · refine Ev.iteT c1 ?_
    by_cases c2 : ((comm a b : Nat) : Int) < (b.length : Int)
    · refine Ev.iteT c2 (hfin _ ?_)
      exact beq_eq_false_iff_ne.2 (comm_next a b (by omega) (by omega))
    · exact Ev.iteF c2 (hfin _ rfl)
  · exact Ev.iteF c1 (hfin _ rfl)
end Go.Proofs.Ytleonalpeicjaaa.Pure
