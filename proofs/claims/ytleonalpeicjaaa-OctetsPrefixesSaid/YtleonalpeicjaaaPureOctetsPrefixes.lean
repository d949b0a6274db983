/- A key is in the range of a prefix and its end just if it begins with the prefix: the plain statement that is left of the law OctetsPrefixes, for all keys and prefixes. -/
import Derived.Test.YtleonalpeicjaaaOct
import Derived.Test.YtleonalpeicjaaaPSx27
namespace Go.Proofs.Ytleonalpeicjaaa.Pure
open Go.RowKit Go.Proofs.YtleonalpeicjaaaW.PrintWords Go.Proofs.YtleonalpeicjaaaW.PrintLast Go.Proofs.YtleonalpeicjaaaW.PrintMore Go.Proofs.Ytleonalpeicjaaa.PS Go.Proofs.Ytleonalpeicjaaa.Base Go.Proofs.Ytleonalpeicjaaa.Oct
theorem OctetsPrefixes : terrierlaw01_OctetsPrefixes.Pure := by
  intro k p _ hk wk _ hp wp
  have wk := bytes_of_wf wk
  have wp := bytes_of_wf wp
  refine Ev.rounds ?_
  unfold terrierlaw01_OctetsPrefixes.f
  have hin : Ev (fun n => octets_In.f n k p (endB p)) (decide (p <+: k)) := by
    have := In_ev k p (endB p) wk wp (endB_bytes wp)
    rwa [inB_prefix wp wk] at this
  by_cases c0 : (p.length : Int) = 0
  · have e : p = [] := List.eq_nil_of_length_eq_zero (by omega)
    refine Ev.iteT c0 (Ev.bind (End_ev p wp (by omega)) (Ev.bind hin ?_))
    exact Ev.eq (Ev.now _) (by simp [e])
  have self : Ev (fun n => (octets_In.f n p p ([] : List Int)).bind fun t => some t) true := by
    refine Ev.bind (In_ev p p [] wp wp bytes_nil) ?_
    exact Ev.eq (Ev.now _) (by simp [inB])
  refine Ev.iteF c0 (Ev.bind (End_ev p wp (by omega)) (Ev.bind hin ?_))
  by_cases c1 : (k.length : Int) ≥ (p.length : Int)
  · refine Ev.iteT c1 (Ev.bind (Common_ev k p (by omega)) (Ev.iteF ?_ self))
    have sw : comm k p = p.length ↔ p <+: k := by
      rw [← comm_all p k]
      have : ∀ a b : List Int, comm a b = comm b a := by
        intro a
        induction a with
        | nil => intro b; cases b <;> rfl
        | cons x a ih => intro b; cases b with
          | nil => rfl
          | cons y b =>
            unfold comm
            by_cases h : x = y
            · rw [if_pos h, if_pos h.symm, ih b]
            · rw [if_neg h, if_neg (fun z => h z.symm)]
      rw [this k p]
    by_cases q : p <+: k
    · have := sw.2 q
      simp [q, this]
    · have : ¬ ((comm k p : Int) = (p.length : Int)) := fun z => q (sw.1 (by omega))
      simp [q, this]
  · refine Ev.iteF c1 (Ev.iteF ?_ self)
    have : ¬ p <+: k := fun z => c1 (by have := z.length_le; omega)
    simp [this]

end Go.Proofs.Ytleonalpeicjaaa.Pure
