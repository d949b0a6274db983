/- Of any page it is told whether it is right, and its bytes, as the document says: the plain statement that is left of the law PageCodes, for every page. -/
import Derived.Test.YtandeendeoempaaPagFPageCodes
import Derived.Test.YtandeendeoempaaPagRPageCodes
import Derived.Test.YtandeendeoempaaPCx17
import Derived.Test.YtandeendeoempaaPCx8
set_option linter.unusedSimpArgs false
namespace Go.Proofs.Ytandeendeoempaa.Pure
open Go.RowKit Go.Proofs.YtandeendeoempaaW.PrintWords Go.Proofs.YtandeendeoempaaW.PrintLast Go.Proofs.YtandeendeoempaaW.PrintMore Go.Proofs.Ytandeendeoempaa.PC Go.Proofs.Ytandeendeoempaa.Base Go.Proofs.Ytandeendeoempaa.Oct Go.Proofs.Ytandeendeoempaa.Crc Go.Proofs.Ytandeendeoempaa.Sum Go.Proofs.Ytandeendeoempaa.Pag Go.Proofs.Ytandeendeoempaa.PagE Go.Proofs.Ytandeendeoempaa.PagF Go.Proofs.Ytandeendeoempaa.PagS Go.Proofs.Ytandeendeoempaa.PagR

theorem okp_of {p : Pg} (h : ok28 ⟨p.k, p.t, p.n, p.items, p.kids, p.data, p.ids⟩) (hf : fewB p = true) : OkP p := by
  obtain ⟨_, h1, _, h3, h4, h5, _⟩ := h
  have u := wf_u64.1 h1
  refine ⟨⟨u.1, ?_⟩, fun x hx => ?_, fun x hx => ?_, bytes_of_wf h5.1, few_used hf⟩
  · have := u.2
    show p.t < _
    have e : (⟨p.k, p.t, p.n, p.items, p.kids, p.data, p.ids⟩ : S28).f1 = p.t := rfl
    rw [e] at this
    omega
  · have o := h3.1 x hx
    exact ⟨bytes_of_wf o.1.1, bytes_of_wf o.2.1.1⟩
  · exact bytes_of_wf (h4.1 x hx).1.1
theorem few_len {p : Pg} (h : fewB p = true) : p.items.length ≤ 1000 ∧ p.kids.length ≤ 1000 ∧ p.data.length ≤ 1000 ∧ p.ids.length ≤ 1000 := by
  unfold fewB at h
  simp only [Bool.and_eq_true, decide_eq_true_eq] at h
  obtain ⟨h1, h2, h3, h4, _⟩ := h
  omega
theorem PageCodes : terrierlaw04_PageCodes.Pure := by
  intro a0 a1 a2 l3 l4 l5 l6 hok
  generalize hp : (⟨a0, a1, a2, l3, l4, l5, l6⟩ : Pg) = p
  have hok' : ok28 ⟨p.k, p.t, p.n, p.items, p.kids, p.data, p.ids⟩ := by subst hp; exact hok
  suffices h : Ev (fun k => terrierlaw04_PageCodes.f k p.k p.t p.n p.items p.kids p.data p.ids) true by
    subst hp
    exact h.rounds
  clear hok hp
  have jt : Ev (fun k => terrierlaw04_PageCodes.j0 k true p.k p.t p.n p.items p.kids p.data p.ids) true :=
    Ev.step (fun k => by rw [terrierlaw04_PageCodes.j0]) (Ev.iteT rfl (Ev.bind lives_ev (Ev.now _)))
  unfold terrierlaw04_PageCodes.f
  refine Ev.bind lives_ev (Ev.iteT rfl (Ev.bind (few_ev p) ?_))
  by_cases fp : fewB p = true
  case neg =>
    rw [Bool.eq_false_iff.2 fp]
    exact jt
  rw [fp]
  have op := okp_of hok' fp
  have bp : ByP p := ⟨op.items, op.kids, op.data⟩
  obtain ⟨p1, p2, p3, p4⟩ := few_len fp
  have Op := Of_ev p p1 p2
  have Rr := rRight_ev p p1 p2 p3 p4 bp
  have Rp := Right_ev p op.used (fun x hx => (op.items x hx).1) op.kids
  obtain ⟨c, hc, hci⟩ := Same_ev p p (by omega) (by omega) (by omega) bp bp
  have c1 : c = true := hci.2 rfl
  subst c1
  refine Ev.step (fun k => by rw [terrierlaw04_PageCodes.j0]) (Ev.iteF (by decide) (Ev.bind Op (Ev.bind (Encode_ev p op) (Ev.bind Rr (Ev.bind Rp ?_)))))
  refine Ev.iteF (show ¬ (rightB p != rightB p) = true by simp) (Ev.bind Op (Ev.bind hc ?_))
  refine Ev.step (fun k => by rw [terrierlaw04_PageCodes.j1]) (Ev.iteF (by decide) ?_)
  by_cases rp : rightB p = true
  · rw [show encE p = (sealB (pad (bodyY p)), 0) from if_pos rp]
    refine Ev.iteT rp (Ev.iteT rfl (Ev.bind (rEncode_ev p op p1 p2 p3 p4 bp rp) (Ev.bind0 (Same_self _) (Ev.iteT rfl (Ev.now _)))))
  · rw [show encE p = ([], 4) from if_neg rp]
    exact Ev.iteF rp (Ev.iteT rfl (Ev.eq (Ev.now _) (by simp)))
end Go.Proofs.Ytandeendeoempaa.Pure
