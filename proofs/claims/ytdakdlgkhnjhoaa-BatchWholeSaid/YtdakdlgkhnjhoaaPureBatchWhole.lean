/- What is split is, one behind the other, the row, no revision is in two parts, and none is longer than it may be but one of a single revision: the plain statement that is left of the law BatchWhole, for any row of events and any length. -/
import Derived.Test.YtdakdlgkhnjhoaaOctBatchWhole
import Derived.Test.YtdakdlgkhnjhoaaBatBatchWhole
import Derived.Test.YtdakdlgkhnjhoaaPWx15
namespace Go.Proofs.Ytdakdlgkhnjhoaa.Pure
open Go.RowKit Go.Proofs.YtdakdlgkhnjhoaaW.PrintWords Go.Proofs.YtdakdlgkhnjhoaaW.PrintLast Go.Proofs.YtdakdlgkhnjhoaaW.PrintMore Go.Proofs.Ytdakdlgkhnjhoaa.PW Go.Proofs.Ytdakdlgkhnjhoaa.Base Go.Proofs.Ytdakdlgkhnjhoaa.Oct Go.Proofs.Ytdakdlgkhnjhoaa.Bat
theorem of_ok {l : List S38} (h : ∀ x ∈ l, ok38 x) : ∀ x ∈ l, EvOk x := fun x hx => by
  obtain ⟨_, ⟨h1, h2, _⟩, _, h3, h4, _⟩ := h x hx
  have a := h1.2.1
  have b := h2.2.1
  have c := h3.2.1
  have d := h4.2.1
  exact ⟨⟨bytes_of_wf h1.1, bytes_of_wf h2.1, by omega, by omega⟩, bytes_of_wf h3.1, bytes_of_wf h4.1, by omega, by omega⟩

theorem mx_eq (a b : Int) : mx a b = if a < b then b else a := by unfold mx; split <;> first | rfl | omega
theorem rdL_at {ps : List (List S38)} {i : Nat} (h : i < ps.length) : rd_L6 ps (i : Int) = ps[i] := by
  simp [rd_L6, List.getD_eq_getElem?_getD, List.getElem?_eq_getElem h]
theorem rd_last {s : List S38} (h0 : 0 < s.length) (hs : s.length ≤ 100000) : wrap64 ((s.length : Int) - 1) = ((s.length - 1 : Nat) : Int) := by
  rw [wrap64_id (by omega) (by omega)]; omega
section
variable (l : List S38) (most : Int) (hl : ∀ x ∈ l, EvOk x) (hn : l.length ≤ 80) (ps : List (List S38)) (hps : ps.flatten = l) (hcnt : ps.length ≤ 80)
include hl hn hps hcnt
theorem parts_loop : ∀ (d i : Nat) (p : Option Int) (last : Int) (rest : List S38), i + d = ps.length → Parts most p rest (ps.drop i) → (0 < i → p = some last) →
    Ev (fun k => terrierlaw17_BatchWhole.l0 k l most (ps.take i).flatten last ps (ps.length : Int) i) true
  | 0, i, p, last, rest, hi, _, _ => by
    refine Ev.step (fun k => by rw [terrierlaw17_BatchWhole.l0]) (Ev.iteF (by omega) ?_)
    rw [List.take_of_length_le (by omega), hps]
    obtain ⟨b, hb, hb2⟩ := refSame_ev l l hl hl (by omega)
    obtain ⟨c, hc, hc2⟩ := Same_ev l l hl hl (by omega)
    obtain rfl := hb2.2 rfl
    obtain rfl := hc2.2 rfl
    exact Ev.bind hb (Ev.iteT rfl (Ev.bind hc (Ev.now _)))
  | d + 1, i, p, last, rest, hi, hP, hp => by
    have h1 : i < ps.length := by omega
    have hlen : (ps.take i).flatten.length + ps[i].length ≤ 80 := by
      have e : ps.flatten = (ps.take i).flatten ++ (ps[i] ++ (ps.drop (i + 1)).flatten) := by
        conv => lhs; rw [← List.take_append_drop i ps, List.flatten_append, List.drop_eq_getElem_cons h1, List.flatten_cons]
      have := congrArg List.length e
      rw [hps] at this
      simp only [List.length_append] at this
      omega
    rw [List.drop_eq_getElem_cons h1] at hP
    generalize hd : ps.drop (i + 1) = tl at hP
    obtain ⟨h0, hpm, hm, hr⟩ := hP.inv
    obtain ⟨rest', hr⟩ := hr
    have next := parts_loop d (i + 1) _ (mod_ (ps[i][ps[i].length - 1]'(by omega))) rest' (by omega) (by rw [hd]; exact hr) (fun _ => rfl)
    have e2 : (ps.take (i + 1)).flatten = (ps.take i).flatten ++ ps[i] := by rw [List.take_succ_eq_append_getElem h1, List.flatten_append]; simp
    rw [e2] at next
    have il : (i : Int) < ps.length := by omega
    have i0 : (0 : Int) ≤ i := by omega
    have s1 : ¬ (ps[i].length : Int) = 0 := by omega
    have s0 : (0 : Int) < (ps[i].length : Int) := by omega
    have w0 : wrap64 ((ps[i].length : Int) - 1) = ((ps[i].length - 1 : Nat) : Int) := rd_last h0 (by omega)
    have w1 : (0 : Int) ≤ ((ps[i].length - 1 : Nat) : Int) := by omega
    have w2 : ((ps[i].length - 1 : Nat) : Int) < (ps[i].length : Int) := by omega
    have r0 : rd_T38 ps[i] 0 = ps[i][0]'h0 := rd_at (i := 0) h0
    have r1 : rd_T38 ps[i] ((ps[i].length - 1 : Nat) : Int) = ps[i][ps[i].length - 1]'(by omega) := rd_at (by omega)
    have hcap : (ps.take i).flatten.length + ps[i].length < 799644820200 := by omega
    have hinc : wrap64 ((i : Int) + 1) = ((i + 1 : Nat) : Int) := wrapInc (by omega)
    have hlong : (ps[i].length : Int) > mx most 1 → (ps[i][0]'h0).f1.f3 = (ps[i][ps[i].length - 1]'(by omega)).f1.f3 := by
      intro hgt
      rw [mx_eq] at hgt
      rcases hm with h | h
      · by_cases c : most < 1
        · rw [if_pos c] at hgt; omega
        · rw [if_neg c] at hgt; omega
      · exact h.symm
    refine Ev.step (fun k => by rw [terrierlaw17_BatchWhole.l0]) ?_
    rw [rdL_at h1]
    simp only [il, i0, s1, s0, w0, w1, w2, r0, r1, hcap, hinc, if_true, if_false]
    by_cases hi0 : (i : Int) > 0
    · have hne : ¬ (ps[i][0]'h0).f1.f3 = last := hpm last (hp (by omega))
      simp only [hi0, hne, if_true, if_false]
      by_cases hg : (ps[i].length : Int) > mx most 1
      · simp only [hg, hlong hg, if_true]
        exact next
      · simp only [hg, if_false]
        exact next
    · simp only [hi0, if_false]
      by_cases hg : (ps[i].length : Int) > mx most 1
      · simp only [hg, hlong hg, if_true]
        exact next
      · simp only [hg, if_false]
        exact next
end
theorem Right_loop (l : List S38) (hn : l.length ≤ 799644820200) : ∀ (i : Nat), i < l.length ∨ i = 0 → ∃ b, Ev (fun k => api_Event_27.l0 k l i) b
  | 0, _ => ⟨true, Ev.step (fun k => by rw [api_Event_27.l0]) (Ev.iteF (by simp) (Ev.now _))⟩
  | i + 1, hi => by
    have h1 : i + 1 < l.length := by omega
    have w : wrap64 (((i + 1 : Nat) : Int) - 1) = (i : Int) := by rw [wrap64_id (by omega) (by omega)]; omega
    obtain ⟨b, hb⟩ := Right_loop l hn i (by omega)
    have hr : ∃ c, ∀ x y : S38, x = l[i + 1] → y = l[i]'(by omega) → batch_Right_1.f x.f0 x.f1.f0 x.f1.f1 x.f1.f2 x.f1.f3 x.f1.f4 x.f1.f5 x.f2 x.f3.f0 x.f3.f1 x.f3.f2 x.f3.f3 x.f3.f4 x.f3.f5 y.f0 y.f1.f0 y.f1.f1 y.f1.f2 y.f1.f3 y.f1.f4 y.f1.f5 y.f2 y.f3.f0 y.f3.f1 y.f3.f2 y.f3.f3 y.f3.f4 y.f3.f5 = some c := by
      unfold batch_Right_1.f
      refine ⟨if l[i + 1].f1.f3 < (l[i]'(by omega)).f1.f3 then -1 else if l[i + 1].f1.f3 > (l[i]'(by omega)).f1.f3 then 1 else 0, ?_⟩
      rintro _ _ rfl rfl
      split
      · rfl
      · split <;> rfl
    obtain ⟨c, hc⟩ := hr
    have hc' := hc _ _ (rd_at h1) (rd_at (by omega : i < l.length))
    have go : ∀ r, Ev (fun k => if c < 0 then some false else api_Event_27.l0 k l (i : Int)) r → Ev (fun k => api_Event_27.l0 k l ((i + 1 : Nat) : Int)) r := by
      intro r hr
      refine Ev.step (fun k => by rw [api_Event_27.l0]) (Ev.iteT (by omega) (Ev.iteT (by omega) (Ev.iteT (by omega) ?_)))
      rw [w]
      exact Ev.iteT (by omega) (Ev.iteT (by omega) (Ev.bind0 hc' hr))
    by_cases hcn : c < 0
    · exact ⟨false, go _ (Ev.iteT hcn (Ev.now _))⟩
    · exact ⟨b, go _ (Ev.iteF hcn hb)⟩
theorem Right_ev (l : List S38) (hn : l.length ≤ 799644820200) : ∃ b, Ev (fun k => batch_Right.f k l) b := by
  unfold batch_Right.f api_Event_27.f
  by_cases h : l.length = 0
  · refine ⟨true, Ev.bind (a := true) ?_ (Ev.now _)⟩
    have w : wrap64 ((l.length : Int) - 1) = -1 := by rw [wrap64_id (by omega) (by omega)]; omega
    rw [w]
    exact Ev.step (fun k => by rw [api_Event_27.l0]) (Ev.iteF (by decide) (Ev.now _))
  · have w : wrap64 ((l.length : Int) - 1) = ((l.length - 1 : Nat) : Int) := by rw [wrap64_id (by omega) (by omega)]; omega
    obtain ⟨b, hb⟩ := Right_loop l hn (l.length - 1) (by omega)
    rw [w]
    exact ⟨b, Ev.bind hb (Ev.now _)⟩
theorem BatchWhole : terrierlaw17_BatchWhole.Pure := by
  intro l most hl0 _
  have hl := of_ok hl0.1
  have hl2 := hl0.2.1
  have hthen : ∀ b : Bool, b = true → Ev (fun q => terrierlaw17_BatchWhole.j0 q l most b) true := fun b hb => by
    subst hb
    exact Ev.step (fun q => by rw [terrierlaw17_BatchWhole.j0]) (Ev.iteT rfl (Ev.bind lives_ev (Ev.now _)))
  refine Ev.rounds ?_
  unfold terrierlaw17_BatchWhole.f
  obtain ⟨f1, e1, hf⟩ := few_ev l hl
  refine Ev.bind lives_ev (Ev.iteT rfl (Ev.bind e1 ?_))
  cases f1
  · exact Ev.iteF (by simp) (hthen _ rfl)
  have hn := hf rfl
  obtain ⟨b, hb⟩ := Right_ev l (by omega)
  refine Ev.iteT rfl (Ev.bind hb ?_)
  cases b
  · exact hthen _ rfl
  obtain ⟨ps, h1, h2⟩ := Split_ev l most hl hn
  refine Ev.step (fun q => by rw [terrierlaw17_BatchWhole.j0]) (Ev.iteF (by simp) (Ev.bind h1 ?_))
  exact parts_loop l most hl hn ps h2.flat (by have := h2.count; omega) ps.length 0 none 0 l (by omega) (by simpa using h2) (fun h => by omega)
end Go.Proofs.Ytdakdlgkhnjhoaa.Pure
