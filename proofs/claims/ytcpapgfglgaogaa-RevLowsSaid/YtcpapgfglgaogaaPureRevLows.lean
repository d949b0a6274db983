/- The least bytes of a Main are the document's, and a revision's bytes are at least those just if its Main is: the plain statement that is left of the law RevLows, for all numbers. -/
import Derived.Test.YtcpapgfglgaogaaOct
import Derived.Test.YtcpapgfglgaogaaRev
import Derived.Test.YtcpapgfglgaogaaPSx18
namespace Go.Proofs.Ytcpapgfglgaogaa.Pure
open Go.RowKit Go.Proofs.YtcpapgfglgaogaaW.PrintWords Go.Proofs.YtcpapgfglgaogaaW.PrintLast Go.Proofs.YtcpapgfglgaogaaW.PrintMore Go.Proofs.Ytcpapgfglgaogaa.PS Go.Proofs.Ytcpapgfglgaogaa.Base Go.Proofs.Ytcpapgfglgaogaa.Oct Go.Proofs.Ytcpapgfglgaogaa.Rev
theorem RevLows : terrierlaw10_RevLows.Pure := by
  intro n m s t hn _
  have hn := wf_i64.1 hn
  refine Ev.rounds ?_
  unfold terrierlaw10_RevLows.f
  refine Ev.bind lives_ev (Ev.iteT rfl (Ev.bind (Low_ev n) (Ev.bind (refLow_ev n) (Ev.bind0 (Same_self _) (Ev.iteT rfl (Ev.bind (Encode_ev m s t) ?_))))))
  by_cases p : RightP m s
  · rw [if_pos p]
    refine Ev.iteT rfl (Ev.bind0 (Compare_eq (encE_bytes _ _ _) (lowE_bytes _)) (Ev.eq (Ev.now _) ?_))
    obtain ⟨p1, p2, p3, p4⟩ := p
    have key : (cmpB (encE m s t) (lowE n) ≥ 0) ↔ m ≥ n := by
      unfold lowE
      by_cases c1 : n < 1
      · rw [if_pos c1]
        have : ∀ l, cmpB l [] ≥ 0 := fun l => by cases l <;> simp [cmpB]
        exact ⟨fun _ => by omega, fun _ => this _⟩
      · rw [if_neg c1]
        by_cases c2 : n > 4611686018427387904
        · rw [if_pos c2]
          unfold encE
          rw [cmp_plain _ _ (by omega) (by omega) (by omega) (by omega) (by omega) (by omega) (by omega) (by omega)]
          have e : cmpB (if t = true then [116] else []) [117] = -1 := by cases t <;> decide
          rw [e]
          constructor
          · intro h; split at h <;> first | omega | (split at h <;> first | omega | (split at h <;> first | omega | (split at h <;> omega)))
          · intro h; omega
        · rw [if_neg c2]
          have : plainE n 0 = plainE n 0 ++ [] := by simp
          unfold encE
          rw [this, cmp_plain _ _ (by omega) (by omega) (by omega) (by omega) (by omega) (by omega) (by omega) (by omega)]
          have e : cmpB (if t = true then [116] else []) [] ≥ 0 := by cases t <;> decide
          constructor
          · intro h; split at h <;> omega
          · intro h
            split
            · omega
            · split
              · omega
              · split
                · omega
                · split <;> omega
    by_cases q : m ≥ n
    · simp [q, key.2 q]
    · have := fun z => q (key.1 z)
      rw [decide_eq_false this, decide_eq_false q]; rfl
  · rw [if_neg p]
    exact Ev.iteF (by simp) (Ev.now _)

end Go.Proofs.Ytcpapgfglgaogaa.Pure
