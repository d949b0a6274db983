/- The least bytes of a Main never come behind those of a greater one, and all lie ahead of those beyond the last one: the plain statement that is left of the law RevSteps, for all numbers. -/
import Derived.Test.YtcpapgfglgaogaaOct
import Derived.Test.YtcpapgfglgaogaaRev
import Derived.Test.YtcpapgfglgaogaaPSx19
namespace Go.Proofs.Ytcpapgfglgaogaa.Pure
open Go.RowKit Go.Proofs.YtcpapgfglgaogaaW.PrintWords Go.Proofs.YtcpapgfglgaogaaW.PrintLast Go.Proofs.YtcpapgfglgaogaaW.PrintMore Go.Proofs.Ytcpapgfglgaogaa.PS Go.Proofs.Ytcpapgfglgaogaa.Base Go.Proofs.Ytcpapgfglgaogaa.Oct Go.Proofs.Ytcpapgfglgaogaa.Rev
theorem low_le {a b : Int} (h : a ≤ b) (hb : b ≤ 9223372036854775807) : cmpB (lowE a) (lowE b) ≤ 0 ∧ (1 ≤ a → b ≤ 4611686018427387904 → a < b → cmpB (lowE a) (lowE b) < 0) := by
  unfold lowE
  by_cases a1 : a < 1
  · rw [if_pos a1]
    refine ⟨?_, fun z => by omega⟩
    have : ∀ l, cmpB [] l ≤ 0 := fun l => by cases l <;> simp [cmpB]
    exact this _
  · rw [if_neg a1, if_neg (by omega : ¬ b < 1)]
    by_cases b2 : b > 4611686018427387904
    · rw [if_pos b2]
      refine ⟨?_, fun _ z => by omega⟩
      by_cases a2 : a > 4611686018427387904
      · rw [if_pos a2, cmpB_self]; omega
      · rw [if_neg a2]
        have : plainE a 0 = plainE a 0 ++ [] := by simp
        rw [this, cmp_plain _ _ (by omega) (by omega) (by omega) (by omega) (by omega) (by omega) (by omega) (by omega)]
        by_cases z : a < 4611686018427387904
        · rw [if_pos z]; omega
        · rw [if_neg z, if_neg (by omega : ¬ (4611686018427387904 : Int) < a), if_pos (by omega : (0 : Int) < 4611686018427387904)]; omega
    · rw [if_neg b2, if_neg (by omega : ¬ a > 4611686018427387904)]
      have e1 : plainE a 0 = plainE a 0 ++ [] := by simp
      have e2 : plainE b 0 = plainE b 0 ++ [] := by simp
      rw [e1, e2, cmp_plain _ _ (by omega) (by omega) (by omega) (by omega) (by omega) (by omega) (by omega) (by omega)]
      refine ⟨?_, fun _ _ z => by rw [if_pos z]; omega⟩
      by_cases z : a < b
      · rw [if_pos z]; omega
      · rw [if_neg z, if_neg (by omega : ¬ b < a)]; simp [cmpB]
theorem RevSteps : terrierlaw10_RevSteps.Pure := by
  intro a b ha hb
  have ha := wf_i64.1 ha
  have hb := wf_i64.1 hb
  refine Ev.rounds ?_
  unfold terrierlaw10_RevSteps.f
  have mnd : mn a b ≤ mx a b ∧ mx a b ≤ 9223372036854775807 ∧ (mn a b = a ∧ mx a b = b ∨ mn a b = b ∧ mx a b = a) := by unfold mn mx; split <;> split <;> omega
  refine Ev.bind lives_ev (Ev.iteT rfl (Ev.bind (Low_ev _) (Ev.bind (Low_ev _) (Ev.bind0 (Compare_eq (lowE_bytes _) (lowE_bytes _)) (Ev.iteT (low_le mnd.1 mnd.2.1).1 (Ev.bind (Low_ev _) (Ev.bind0 (Compare_eq (lowE_bytes _) (lowE_bytes _)) ?_)))))))
  have top : cmpB (lowE (mx a b)) (lowE 4611686018427387905) ≤ 0 := by
    by_cases h : mx a b ≤ 4611686018427387905
    · exact (low_le h (by omega)).1
    · have : lowE (mx a b) = lowE 4611686018427387905 := by
        unfold lowE
        rw [if_neg (by omega), if_pos (by omega), if_neg (by omega), if_pos (by omega)]
      rw [this, cmpB_self]; omega
  refine Ev.iteT top ?_
  by_cases c1 : a < 1
  · exact Ev.iteT c1 (Ev.now _)
  refine Ev.iteF c1 ?_
  by_cases c2 : b < 1
  · exact Ev.iteT c2 (Ev.now _)
  refine Ev.iteF c2 ?_
  by_cases c3 : a > 4611686018427387904
  · exact Ev.iteT c3 (Ev.now _)
  refine Ev.iteF c3 ?_
  by_cases c4 : b > 4611686018427387904
  · exact Ev.iteT c4 (Ev.now _)
  refine Ev.iteF c4 (Ev.bind0 (Same_eq (lowE_bytes _) (lowE_bytes _)) (Ev.eq (Ev.now _) ?_))
  by_cases e : a = b
  · have : mn a b = mx a b := by rcases mnd.2.2 with ⟨h1, h2⟩ | ⟨h1, h2⟩ <;> omega
    rw [this]; simp [e]
  · have ne : lowE (mn a b) ≠ lowE (mx a b) := by
      intro h
      have lt : mn a b < mx a b := by rcases mnd.2.2 with ⟨h1, h2⟩ | ⟨h1, h2⟩ <;> omega
      have := (low_le mnd.1 mnd.2.1).2 (by rcases mnd.2.2 with ⟨h1, h2⟩ | ⟨h1, h2⟩ <;> omega) (by rcases mnd.2.2 with ⟨h1, h2⟩ | ⟨h1, h2⟩ <;> omega) lt
      rw [h, cmpB_self] at this
      omega
    simp [e, ne]

end Go.Proofs.Ytcpapgfglgaogaa.Pure
