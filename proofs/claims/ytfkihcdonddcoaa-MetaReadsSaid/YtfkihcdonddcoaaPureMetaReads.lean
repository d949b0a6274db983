/- Any bytes, sealed or not, are the meta that the document says, or refused as it says: the plain statement that is left of the law MetaReads. -/
import Derived.Test.YtfkihcdonddcoaaOctMetaReads
import Derived.Test.YtfkihcdonddcoaaMetMetaReads
import Derived.Test.YtfkihcdonddcoaaMetDMetaReads
import Derived.Test.YtfkihcdonddcoaaPRx14
namespace Go.Proofs.Ytfkihcdonddcoaa.Pure
open Go.RowKit Go.Proofs.YtfkihcdonddcoaaW.PrintWords Go.Proofs.YtfkihcdonddcoaaW.PrintLast Go.Proofs.YtfkihcdonddcoaaW.PrintMore Go.Proofs.Ytfkihcdonddcoaa.PR Go.Proofs.Ytfkihcdonddcoaa.Base Go.Proofs.Ytfkihcdonddcoaa.Oct Go.Proofs.Ytfkihcdonddcoaa.Crc Go.Proofs.Ytfkihcdonddcoaa.Sum Go.Proofs.Ytfkihcdonddcoaa.Met Go.Proofs.Ytfkihcdonddcoaa.MetD
theorem J1 (B : List Int) (hb : Bytes B) (hl : B.length ≤ 140737488351232) : Ev (fun k => terrierlaw05_MetaReads.j1 k B) true := by
  obtain ⟨⟨a, b, c, d, e⟩, h1, h2⟩ := both B hb hl
  refine Ev.step (fun k => by rw [terrierlaw05_MetaReads.j1]) ?_
  exact Ev.bind0 (Twin_eq (by omega)) (Ev.bind h1 (Ev.bind h2 (Ev.bind0 (of_eq a b c d) (Ev.iteT (by simp) (Ev.iteT rfl (Ev.bind0 (Same_self _) (Ev.now _)))))))
theorem MetaReads : terrierlaw05_MetaReads.Pure := by
  intro l s h
  have hb := bytes_of_wf h.1
  have hl : l.length ≤ 140737488351232 := by have := h.2.1; omega
  refine Ev.rounds ?_
  unfold terrierlaw05_MetaReads.f
  refine Ev.bind lives_ev (Ev.iteT rfl ?_)
  refine Ev.step (fun k => by rw [terrierlaw05_MetaReads.j0]) ?_
  by_cases c : (l.length : Int) > 1000
  · exact Ev.iteT (by simpa using c) (Ev.bind lives_ev (Ev.now _))
  · refine Ev.iteF (by simpa using c) ?_
    cases s with
    | true => exact Ev.iteT rfl (Ev.bind (refSeal_ev l hb hl) (J1 _ (seal_bytes hb) (by rw [seal_length]; omega)))
    | false => exact Ev.iteF (by decide) (J1 l hb hl)
end Go.Proofs.Ytfkihcdonddcoaa.Pure
