/- A number comes back from its bytes, whatever stands around them, and bytes of one size come in the numbers' order: the plain statement that is left of the law OctetsBack, for all numbers, sizes and bytes around. -/
import Derived.Test.YtleonalpeicjaaaOct
import Derived.Test.YtleonalpeicjaaaPSx18
namespace Go.Proofs.Ytleonalpeicjaaa.Pure
open Go.RowKit Go.Proofs.YtleonalpeicjaaaW.PrintWords Go.Proofs.YtleonalpeicjaaaW.PrintLast Go.Proofs.YtleonalpeicjaaaW.PrintMore Go.Proofs.Ytleonalpeicjaaa.PS Go.Proofs.Ytleonalpeicjaaa.Base Go.Proofs.Ytleonalpeicjaaa.Oct

theorem OctetsBack : terrierlaw01_OctetsBack.Pure := by
  intro n m s0 ah be hn hm hs _ ha wa _ hb wb
  have hn := wf_u64.1 hn
  have hm := wf_u64.1 hm
  have hs := wf_i64.1 hs
  have wa := bytes_of_wf wa
  have wb := bytes_of_wf wb
  refine Ev.rounds ?_
  unfold terrierlaw01_OctetsBack.f
  obtain ⟨s, hsd, h1, h8⟩ : ∃ s : Nat, wrap64 (1 + wrap64 (Int.tmod (IntKind.u64.wrap s0) 8)) = s ∧ 1 ≤ s ∧ s ≤ 8 := by
    rw [wrap_u64, Int.tmod_eq_emod_of_nonneg (by omega), wrap64_id (n := s0 % 18446744073709551616 % 8) (by omega) (by omega), wrap64_id (by omega) (by omega)]
    exact ⟨(1 + s0 % 18446744073709551616 % 8).toNat, by omega, by omega, by omega⟩
  rw [hsd]
  have out : Ev (fun k => terrierlaw01_OctetsBack.j0 k n m s ah be true) true := by
    refine Ev.step (fun k => by rw [terrierlaw01_OctetsBack.j0]) ?_
    exact Ev.iteT rfl (Ev.now _)
  by_cases c1 : (ah.length : Int) > 1000
  · exact Ev.iteT c1 out
  refine Ev.iteF c1 ?_
  by_cases c2 : (be.length : Int) > 1000
  · rw [decide_eq_true c2]; exact out
  rw [decide_eq_false c2]
  refine Ev.step (fun k => by rw [terrierlaw01_OctetsBack.j0]) ?_
  refine Ev.iteF (by simp) (Ev.bind (Put_ev n s hn.1 (by omega) (by omega) (by omega)) (Ev.bind (Put_ev m s hm.1 (by omega) (by omega) (by omega)) ?_))
  have small : ∀ x : Int, 0 ≤ x → x ≤ 18446744073709551615 → x / 256 ^ s ≠ 0 → (s : Int) < 8 := by
    intro x h0 h1 hx
    rcases Nat.lt_or_ge s 8 with h | h
    · omega
    · have : s = 8 := by omega
      subst this
      rw [pow256_8] at hx
      omega
  have fit : ∀ x : Int, 0 ≤ x → x / 256 ^ s = 0 → x < 256 ^ s := by
    intro x h0 hx
    have hp : (0 : Int) < 256 ^ s := Int.pow_pos (by omega)
    rcases Int.lt_or_le x (256 ^ s) with h | h
    · exact h
    · have := Int.ediv_le_ediv hp h
      rw [Int.ediv_self (by omega)] at this
      omega
  have eN : putE n s = if n / 256 ^ s ≠ 0 then ([], 2) else (putB n s, 0) := by
    unfold putE; rw [if_neg (by omega), Int.toNat_natCast]
  have eM : putE m s = if m / 256 ^ s ≠ 0 then ([], 2) else (putB m s, 0) := by
    unfold putE; rw [if_neg (by omega), Int.toNat_natCast]
  rw [eN, eM]
  by_cases c3 : n / 256 ^ s ≠ 0
  · rw [if_pos c3]
    refine Ev.iteF (by simp) ?_
    rw [decide_eq_true (small n hn.1 hn.2 c3)]
    exact Ev.now _
  rw [if_neg c3]
  have lN := fit n hn.1 (by simpa using c3)
  refine Ev.iteT rfl (Ev.bind0 (Twin_eq (by omega)) (Ev.iteT (by simp [putB_length]; omega) (Ev.bind0 rfl (Ev.iteT (by simp [putB_length]; omega) ?_))))
  refine Ev.bind (Get_ev _ _ _ ?_ ?_ (by omega) (by omega) (by omega) (by omega)) ?_
  · exact bytes_append.2 ⟨bytes_append.2 ⟨wa, putB_bytes _ _⟩, wb⟩
  · simp [putB_length]; omega
  have eG : getE (ah ++ putB n s ++ be) ah.length s = (n, 0) := by
    unfold getE
    rw [if_neg (by omega), if_neg (by simp [putB_length]; omega), Int.toNat_natCast, Int.toNat_natCast, List.append_assoc, List.drop_left, List.take_left' (putB_length s n), getB_putB_id hn.1 lN]
  rw [eG]
  refine Ev.iteT rfl (Ev.iteT rfl ?_)
  rw [putB_length, show ((s : Int) != (s : Int)) = false by simp]
  refine Ev.step (fun k => by rw [terrierlaw01_OctetsBack.j1]) ?_
  refine Ev.iteF (by simp) (Ev.iteT rfl ?_)
  by_cases c4 : m / 256 ^ s ≠ 0
  · rw [if_pos c4]
    refine Ev.iteF (by simp) ?_
    rw [decide_eq_true (small m hm.1 hm.2 c4)]
    exact Ev.now _
  rw [if_neg c4]
  have lM := fit m hm.1 (by simpa using c4)
  refine Ev.iteT rfl (Ev.bind0 (Compare_eq (putB_bytes _ _) (putB_bytes _ _)) ?_)
  rw [cmpB_putB s n m hn.1 hm.1 lN lM]
  by_cases p : n < m
  · rw [if_pos p]
    refine Ev.iteT (by simp [p]) ?_
    have : n ≠ m := by omega
    exact Ev.eq (Ev.now _) (by rw [beq_eq_false_iff_ne.2 this]; rfl)
  · rw [if_neg p]
    by_cases q : m < n
    · rw [if_pos q]
      refine Ev.iteT (by simp; omega) ?_
      have : n ≠ m := by omega
      exact Ev.eq (Ev.now _) (by rw [beq_eq_false_iff_ne.2 this]; rfl)
    · rw [if_neg q]
      refine Ev.iteT (by simp; omega) ?_
      have : n = m := by omega
      exact Ev.eq (Ev.now _) (by rw [beq_iff_eq.2 this]; rfl)

end Go.Proofs.Ytleonalpeicjaaa.Pure
