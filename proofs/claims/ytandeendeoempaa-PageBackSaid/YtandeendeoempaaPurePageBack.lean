/- A page comes back from its bytes, and no other page has them: the plain statement that is left of the law PageBack, for every two pages. -/
import Derived.Test.YtandeendeoempaaPagFPageBack
import Derived.Test.YtandeendeoempaaPagDPageBack
import Derived.Test.YtandeendeoempaaPagSPageBack
import Derived.Test.YtandeendeoempaaPMx21
import Derived.Test.YtandeendeoempaaPMx8
set_option linter.unusedSimpArgs false
namespace Go.Proofs.Ytandeendeoempaa.Pure
open Go.RowKit Go.Proofs.YtandeendeoempaaW.PrintWords Go.Proofs.YtandeendeoempaaW.PrintLast Go.Proofs.YtandeendeoempaaW.PrintMore Go.Proofs.Ytandeendeoempaa.PM Go.Proofs.Ytandeendeoempaa.Base Go.Proofs.Ytandeendeoempaa.Oct Go.Proofs.Ytandeendeoempaa.Crc Go.Proofs.Ytandeendeoempaa.Sum Go.Proofs.Ytandeendeoempaa.Pag Go.Proofs.Ytandeendeoempaa.PagE Go.Proofs.Ytandeendeoempaa.PagF Go.Proofs.Ytandeendeoempaa.PagD Go.Proofs.Ytandeendeoempaa.PagS

theorem okp_of {p : Pg} (h : ok28 ⟨p.k, p.t, p.n, p.items, p.kids, p.data, p.ids⟩) (hf : fewB p = true) : OkP p := by
  obtain ⟨_, h1, _, h3, h4, h5, _⟩ := h
  have u := wf_u64.1 h1
  refine ⟨⟨u.1, ?_⟩, fun x hx => ?_, fun x hx => ?_, bytes_of_wf h5.1, few_used hf⟩
  · have := u.2
    show p.t < _
    have e : (⟨p.k, p.t, p.n, p.items, p.kids, p.data, p.ids⟩ : S28).f1 = p.t := rfl
    rw [e] at this
    omega
  · have o := h3.1 x hx
    exact ⟨bytes_of_wf o.1.1, bytes_of_wf o.2.1.1⟩
  · exact bytes_of_wf (h4.1 x hx).1.1
theorem byp_of {p : Pg} (ok : OkP p) : ByP p := ⟨ok.items, ok.kids, ok.data⟩
theorem few_len {p : Pg} (h : fewB p = true) : p.items.length ≤ 300 ∧ p.kids.length ≤ 300 ∧ p.ids.length ≤ 300 := by
  unfold fewB at h
  simp only [Bool.and_eq_true, decide_eq_true_eq] at h
  exact ⟨h.1, h.2.1, h.2.2.2.1⟩
theorem one_value {α : Type} {f : Nat → Option α} {a b : α} (h : Ev f a) (g : Ev f b) : a = b := by
  obtain ⟨n, hn⟩ := h
  obtain ⟨m, hm⟩ := g
  have h1 := hn (max n m) (Nat.le_max_left _ _)
  have h2 := hm (max n m) (Nat.le_max_right _ _)
  exact Option.some.inj (h1.symm.trans h2)
theorem enc_inj {p q : Pg} (op : OkP p) (oq : OkP q) (rp : rightB p = true) (rq : rightB q = true) (h : sealB (pad (bodyY p)) = sealB (pad (bodyY q))) : p = q := by
  have h1 := Decode_ev p op rp
  have h2 := Decode_ev q oq rq
  rw [h] at h1
  have h3 := one_value h1 h2
  simp only [Prod.mk.injEq] at h3
  rw [pg_eq]
  exact ⟨h3.1, h3.2.1, h3.2.2.1, h3.2.2.2.1, h3.2.2.2.2.1, h3.2.2.2.2.2.1, h3.2.2.2.2.2.2.1⟩
theorem PageBack : terrierlaw04_PageBack.Pure := by
  intro a0 a1 a2 l3 l4 l5 l6 b0 b1 b2 m3 m4 m5 m6 hok hoq
  generalize hp : (⟨a0, a1, a2, l3, l4, l5, l6⟩ : Pg) = p
  generalize hq : (⟨b0, b1, b2, m3, m4, m5, m6⟩ : Pg) = q
  have hok' : ok28 ⟨p.k, p.t, p.n, p.items, p.kids, p.data, p.ids⟩ := by subst hp; exact hok
  have hoq' : ok28 ⟨q.k, q.t, q.n, q.items, q.kids, q.data, q.ids⟩ := by subst hq; exact hoq
  suffices h : Ev (fun k => terrierlaw04_PageBack.f k p.k p.t p.n p.items p.kids p.data p.ids q.k q.t q.n q.items q.kids q.data q.ids) true by
    subst hp
    subst hq
    exact h.rounds
  clear hok hp hoq hq
  have jt : Ev (fun k => terrierlaw04_PageBack.j0 k true p.k p.t p.n p.items p.kids p.data p.ids q.k q.t q.n q.items q.kids q.data q.ids) true :=
    Ev.step (fun k => by rw [terrierlaw04_PageBack.j0]) (Ev.iteT rfl (Ev.bind lives_ev (Ev.now _)))
  unfold terrierlaw04_PageBack.f
  refine Ev.bind lives_ev (Ev.iteT rfl (Ev.bind (few_ev p) ?_))
  by_cases fp : fewB p = true
  case neg => exact Ev.iteF fp jt
  refine Ev.iteT fp (Ev.bind (few_ev q) ?_)
  by_cases fq : fewB q = true
  case neg =>
    rw [Bool.eq_false_iff.2 fq]
    exact jt
  rw [fq]
  have op := okp_of hok' fp
  have oq := okp_of hoq' fq
  obtain ⟨p1, p2, p3⟩ := few_len fp
  obtain ⟨q1, q2, _⟩ := few_len fq
  have Op := Of_ev p (by omega) (by omega)
  have Oq := Of_ev q (by omega) (by omega)
  refine Ev.step (fun k => by rw [terrierlaw04_PageBack.j0]) (Ev.iteF (by decide) (Ev.bind (Encode_ev p op) ?_))
  by_cases rp : rightB p = true
  case neg =>
    rw [show encE p = ([], 4) from if_neg rp]
    refine Ev.iteF (by decide) (Ev.bind (Right_ev p op.used (fun x hx => (op.items x hx).1) op.kids) (Ev.eq (Ev.now _) ?_))
    rw [Bool.eq_false_iff.2 rp]
    rfl
  rw [show encE p = (sealB (pad (bodyY p)), 0) from if_pos rp]
  obtain ⟨c, hc, hci⟩ := Same_ev p p (by omega) (by omega) (by omega) (byp_of op) (byp_of op)
  have c1 : c = true := hci.2 rfl
  subst c1
  refine Ev.iteT rfl (Ev.bind (Decode_ev p op rp) (Ev.iteT rfl (Ev.bind Op (Ev.bind Op (Ev.bind hc ?_)))))
  refine Ev.step (fun k => by rw [terrierlaw04_PageBack.j1]) (Ev.iteF (by decide) (Ev.bind (Encode_ev q oq) ?_))
  by_cases rq : rightB q = true
  case neg =>
    rw [show encE q = ([], 4) from if_neg rq]
    exact Ev.iteF (by decide) (Ev.now _)
  rw [show encE q = (sealB (pad (bodyY q)), 0) from if_pos rq]
  obtain ⟨d, hd, hdi⟩ := Same_ev p q (by omega) (by omega) (by omega) (byp_of op) (byp_of oq)
  have sb := Same_eq (seal_bytes (pad_bytes (body_bytes op))) (seal_bytes (pad_bytes (body_bytes oq)))
  refine Ev.iteT rfl (Ev.bind0 sb (Ev.bind Op (Ev.bind Oq (Ev.bind hd (Ev.eq (Ev.now _) ?_)))))
  by_cases e : p = q
  · rw [hdi.2 e, decide_eq_true (by rw [e])]
    rfl
  · have dn : d = false := Bool.eq_false_iff.2 fun h => e (hdi.1 h)
    rw [dn, decide_eq_false fun h => e (enc_inj op oq rp rq h)]
    rfl
end Go.Proofs.Ytandeendeoempaa.Pure
