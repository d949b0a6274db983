/- A meta comes back from its bytes, and no other one has them: the plain statement that is left of the law MetaBack. -/
import Derived.Test.YtfkihcdonddcoaaOctMetaBack
import Derived.Test.YtfkihcdonddcoaaMetMetaBack
import Derived.Test.YtfkihcdonddcoaaPBx13
namespace Go.Proofs.Ytfkihcdonddcoaa.Pure
open Go.RowKit Go.Proofs.YtfkihcdonddcoaaW.PrintWords Go.Proofs.YtfkihcdonddcoaaW.PrintLast Go.Proofs.YtfkihcdonddcoaaW.PrintMore Go.Proofs.Ytfkihcdonddcoaa.PB Go.Proofs.Ytfkihcdonddcoaa.Base Go.Proofs.Ytfkihcdonddcoaa.Oct Go.Proofs.Ytfkihcdonddcoaa.Met
theorem MetaBack : terrierlaw05_MetaBack.Pure := by
  intro t r s z t' r' s' z' h h'
  have ht := wf_u64.1 h.1
  have ht' := wf_u64.1 h'.1
  refine Ev.rounds ?_
  unfold terrierlaw05_MetaBack.f
  refine Ev.bind lives_ev (Ev.iteT rfl ?_)
  have E := Encode_ev t r s z ht.1 (by have := ht.2; dsimp only at this; omega)
  have E' := Encode_ev t' r' s' z' ht'.1 (by have := ht'.2; dsimp only at this; omega)
  by_cases hr : RightM r s z
  · rw [if_pos hr] at E
    have hf : Fit t r s z := ⟨ht.1, by have := ht.2; dsimp only at this; omega, hr⟩
    by_cases hr' : RightM r' s' z'
    · have hf' : Fit t' r' s' z' := ⟨ht'.1, by have := ht'.2; dsimp only at this; omega, hr'⟩
      rw [if_pos hr'] at E'
      refine Ev.bind E (Ev.iteT rfl (Ev.bind (dec_enc hf) (Ev.bind E' (Ev.iteT rfl (Ev.iteT (by simp) ?_)))))
      refine Ev.iteT rfl (Ev.bind0 (Same_eq (metaE_bytes _ _ _ _) (metaE_bytes _ _ _ _)) (Ev.eq (Ev.now _) ?_))
      by_cases e : metaE t r s z = metaE t' r' s' z'
      · have := metaE_inj hf hf' e
        simp only [Prod.mk.injEq] at this
        obtain ⟨rfl, rfl, rfl, rfl⟩ := this
        simp
      · have : ¬ (t = t' ∧ r = r' ∧ s = s' ∧ z = z') := fun ⟨a, b, c, d⟩ => e (by rw [a, b, c, d])
        simp [e]
        omega
    · rw [if_neg hr'] at E'
      refine Ev.bind E (Ev.iteT rfl (Ev.bind (dec_enc hf) (Ev.bind E' (Ev.iteT rfl (Ev.iteT (by simp) ?_)))))
      exact Ev.iteF (by decide) (Ev.now _)
  · rw [if_neg hr] at E
    exact Ev.bind E (Ev.iteF (by decide) (Ev.bind (Right_ev t r s z) (Ev.eq (Ev.now _) (by simp [hr]))))
end Go.Proofs.Ytfkihcdonddcoaa.Pure
