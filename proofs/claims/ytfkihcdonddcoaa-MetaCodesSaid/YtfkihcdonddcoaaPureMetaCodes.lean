/- Of any numbers it is told whether they are a meta, and its bytes: the plain statement that is left of the law MetaCodes. -/
import Derived.Test.YtfkihcdonddcoaaOctMetaCodes
import Derived.Test.YtfkihcdonddcoaaMetMetaCodes
import Derived.Test.YtfkihcdonddcoaaMetRMetaCodes
import Derived.Test.YtfkihcdonddcoaaPCx12
import Derived.Test.YtfkihcdonddcoaaPCx16
namespace Go.Proofs.Ytfkihcdonddcoaa.Pure
open Go.RowKit Go.Proofs.YtfkihcdonddcoaaW.PrintWords Go.Proofs.YtfkihcdonddcoaaW.PrintLast Go.Proofs.YtfkihcdonddcoaaW.PrintMore Go.Proofs.Ytfkihcdonddcoaa.PC Go.Proofs.Ytfkihcdonddcoaa.Base Go.Proofs.Ytfkihcdonddcoaa.Oct Go.Proofs.Ytfkihcdonddcoaa.Met Go.Proofs.Ytfkihcdonddcoaa.MetR
theorem MetaCodes : terrierlaw05_MetaCodes.Pure := by
  intro t r s z h
  have ht := wf_u64.1 h.1
  dsimp only at ht
  refine Ev.rounds ?_
  unfold terrierlaw05_MetaCodes.f
  refine Ev.bind lives_ev (Ev.iteT rfl ?_)
  have E := Encode_ev t r s z ht.1 (by omega)
  by_cases hr : RightM r s z
  · rw [if_pos hr] at E
    have hf : Fit t r s z := ⟨ht.1, by omega, hr⟩
    refine Ev.bind E (Ev.bind0 rfl (Ev.bind0 (refRight_eq t r s z) (Ev.bind (Right_ev t r s z) (Ev.iteF (by simp) (Ev.iteT (by simpa using hr) (Ev.iteT rfl (Ev.bind0 rfl (Ev.bind (refEncode_ev hf) (Ev.bind0 (Same_self _) (Ev.iteT rfl (Ev.now _)))))))))))
  · rw [if_neg hr] at E
    refine Ev.bind E (Ev.bind0 rfl (Ev.bind0 (refRight_eq t r s z) (Ev.bind (Right_ev t r s z) (Ev.iteF (by simp) (Ev.iteF (by simpa using hr) (Ev.iteT rfl (Ev.eq (Ev.now _) rfl)))))))
end Go.Proofs.Ytfkihcdonddcoaa.Pure
