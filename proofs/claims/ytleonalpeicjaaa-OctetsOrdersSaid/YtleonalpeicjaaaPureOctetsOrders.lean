/- Keys come in one order: of two unlike ones one is ahead, and ahead of ahead is ahead: the plain statement that is left of the law OctetsOrders, for all keys. -/
import Derived.Test.YtleonalpeicjaaaOct
import Derived.Test.YtleonalpeicjaaaPSx9
namespace Go.Proofs.Ytleonalpeicjaaa.Pure
open Go.RowKit Go.Proofs.YtleonalpeicjaaaW.PrintWords Go.Proofs.YtleonalpeicjaaaW.PrintLast Go.Proofs.YtleonalpeicjaaaW.PrintMore Go.Proofs.Ytleonalpeicjaaa.PS Go.Proofs.Ytleonalpeicjaaa.Base Go.Proofs.Ytleonalpeicjaaa.Oct

theorem OctetsOrders : terrierlaw01_OctetsOrders.Pure := by
  intro a b c _ ha wa _ hb wb _ hc wc
  have wa := bytes_of_wf wa
  have wb := bytes_of_wf wb
  have wc := bytes_of_wf wc
  refine Ev.rounds ?_
  unfold terrierlaw01_OctetsOrders.f
  refine Ev.bind0 (Compare_eq wa wb) (Ev.bind0 (Compare_eq wb wc) (Ev.bind0 (Compare_eq wa wc) (Ev.bind0 (Compare_eq wb wa) ?_)))
  have h3 := cmpB_three a b
  have h4 := cmpB_three b c
  have h5 := cmpB_three a c
  have hs := cmpB_swap a b
  have ht := cmpB_trans a b c
  have fin : octets_Compare.f [0] [] = some 1 := Compare_eq (by intro x hx; simp at hx; omega) bytes_nil
  have tail : ∀ k : Nat, ((octets_Compare.f ([0] : List Int) ([] : List Int)).bind fun t => some (t == 1)) = some true := fun _ => by rw [fin]; rfl
  have w1 : wrap64 (-cmpB b a) = cmpB a b := by rw [wrap64_id (by omega) (by omega)]; omega
  rw [w1]
  refine Ev.iteT rfl ?_
  have body : ∀ g : Bool, g = false → Ev (fun k : Nat => if g = true then some false else (if cmpB a b < -1 then some false else (if cmpB a b > 1 then some false else (if cmpB a b > 0 then (if cmpB a b ≥ 0 then ((octets_Compare.f ([0] : List Int) ([] : List Int)).bind fun t => some (t == 1)) else (if cmpB b c > 0 then ((octets_Compare.f ([0] : List Int) ([] : List Int)).bind fun t => some (t == 1)) else (if cmpB a c < 0 then ((octets_Compare.f ([0] : List Int) ([] : List Int)).bind fun t => some (t == 1)) else some false))) else (if cmpB b c > 0 then (if cmpB a b ≥ 0 then ((octets_Compare.f ([0] : List Int) ([] : List Int)).bind fun t => some (t == 1)) else ((octets_Compare.f ([0] : List Int) ([] : List Int)).bind fun t => some (t == 1))) else (if cmpB a c ≤ 0 then (if cmpB a b ≥ 0 then ((octets_Compare.f ([0] : List Int) ([] : List Int)).bind fun t => some (t == 1)) else (if cmpB a c < 0 then ((octets_Compare.f ([0] : List Int) ([] : List Int)).bind fun t => some (t == 1)) else some false)) else some false)))))) true := by
    intro g hg
    refine Ev.iteF (by simp [hg]) (Ev.iteF (by omega) (Ev.iteF (by omega) ?_))
    have fin' : Ev (fun _ : Nat => (octets_Compare.f ([0] : List Int) ([] : List Int)).bind fun t => some (t == 1)) true := ⟨0, fun k _ => tail k⟩
    by_cases c1 : cmpB a b > 0
    · exact Ev.iteT c1 (Ev.iteT (by omega) fin')
    refine Ev.iteF c1 ?_
    by_cases c2 : cmpB b c > 0
    · refine Ev.iteT c2 ?_
      by_cases c3 : cmpB a b ≥ 0
      · exact Ev.iteT c3 fin'
      · exact Ev.iteF c3 fin'
    obtain ⟨t1, t2⟩ := ht (by omega) (by omega)
    refine Ev.iteF c2 (Ev.iteT (by omega) ?_)
    by_cases c3 : cmpB a b ≥ 0
    · exact Ev.iteT c3 fin'
    · exact Ev.iteF c3 (Ev.iteT (t2 (Or.inl (by omega))) fin')
  by_cases e : (a.length : Int) = (b.length : Int)
  · refine Ev.iteT e (Ev.bind (Common_ev a b (by omega)) (body _ ?_))
    have z := cmpB_zero a b
    have q := comm_all a b
    have le := comm_le a b
    by_cases h : a = b
    · have : comm a b = a.length := q.2 (h ▸ List.prefix_rfl)
      simp [z.2 h, this]
    · have n1 : ¬ cmpB a b = 0 := fun h' => h (z.1 h')
      have n2 : ¬ comm a b = a.length := fun h' => h (List.IsPrefix.eq_of_length (q.1 h') (by omega))
      have n3 : ¬ ((comm a b : Int) = (a.length : Int)) := by omega
      rw [beq_eq_false_iff_ne.2 n1, beq_eq_false_iff_ne.2 n3]; rfl
  · refine Ev.iteF e (body _ ?_)
    have : ¬ cmpB a b = 0 := fun h' => e (by rw [(cmpB_zero a b).1 h'])
    simp [this]

end Go.Proofs.Ytleonalpeicjaaa.Pure
