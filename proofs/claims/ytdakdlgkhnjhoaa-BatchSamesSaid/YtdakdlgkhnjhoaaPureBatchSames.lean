/- Whether two rows are the same is as the document says: the plain statement that is left of the law BatchSames, for any two rows of events. -/
import Derived.Test.YtdakdlgkhnjhoaaOctBatchSames
import Derived.Test.YtdakdlgkhnjhoaaBatBatchSames
import Derived.Test.YtdakdlgkhnjhoaaPSx19
namespace Go.Proofs.Ytdakdlgkhnjhoaa.Pure
open Go.RowKit Go.Proofs.YtdakdlgkhnjhoaaW.PrintWords Go.Proofs.YtdakdlgkhnjhoaaW.PrintLast Go.Proofs.YtdakdlgkhnjhoaaW.PrintMore Go.Proofs.Ytdakdlgkhnjhoaa.PS Go.Proofs.Ytdakdlgkhnjhoaa.Base Go.Proofs.Ytdakdlgkhnjhoaa.Oct Go.Proofs.Ytdakdlgkhnjhoaa.Bat
theorem of_ok {l : List S38} (h : ∀ x ∈ l, ok38 x) : ∀ x ∈ l, EvOk x := fun x hx => by
  obtain ⟨_, ⟨h1, h2, _⟩, _, h3, h4, _⟩ := h x hx
  have a := h1.2.1
  have b := h2.2.1
  have c := h3.2.1
  have d := h4.2.1
  exact ⟨⟨bytes_of_wf h1.1, bytes_of_wf h2.1, by omega, by omega⟩, bytes_of_wf h3.1, bytes_of_wf h4.1, by omega, by omega⟩

theorem BatchSames : terrierlaw17_BatchSames.Pure := by
  intro l m hl0 hm0
  have hl := of_ok hl0.1
  have hm := of_ok hm0.1
  have hl2 := hl0.2.1
  have hm2 := hm0.2.1
  have hthen : ∀ b : Bool, b = true → Ev (fun q => terrierlaw17_BatchSames.j0 q l m b) true := fun b hb => by
    subst hb
    exact Ev.step (fun q => by rw [terrierlaw17_BatchSames.j0]) (Ev.iteT rfl (Ev.bind lives_ev (Ev.now _)))
  refine Ev.rounds ?_
  unfold terrierlaw17_BatchSames.f
  obtain ⟨f1, e1, _⟩ := few_ev l hl
  obtain ⟨f2, e2, _⟩ := few_ev m hm
  refine Ev.bind lives_ev (Ev.iteT rfl (Ev.bind e1 ?_))
  cases f1
  · exact Ev.iteF (by simp) (hthen _ rfl)
  refine Ev.iteT rfl (Ev.bind e2 ?_)
  cases f2
  · exact hthen _ rfl
  obtain ⟨b, hb, hb2⟩ := Same_ev l m hl hm (by omega)
  obtain ⟨c, hc, hc2⟩ := refSame_ev l m hl hm (by omega)
  obtain ⟨a, ha, ha2⟩ := Same_ev l l hl hl (by omega)
  have hbc : b = c := by rw [Bool.eq_iff_iff, hb2, hc2]
  subst hbc
  obtain rfl : a = true := ha2.2 rfl
  refine Ev.step (fun q => by rw [terrierlaw17_BatchSames.j0]) (Ev.iteF (by simp) (Ev.bind hb (Ev.bind hc (Ev.iteT (beq_self_eq_true b) (Ev.bind ha (Ev.now _))))))
end Go.Proofs.Ytdakdlgkhnjhoaa.Pure
