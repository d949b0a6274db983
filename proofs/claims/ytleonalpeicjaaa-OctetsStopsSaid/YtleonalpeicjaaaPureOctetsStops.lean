/- Behind its first error a reader reads nothing more, and stays where it is: the plain statement that is left of the law OctetsStops, for all bytes and all rows of reads. -/
import Derived.Test.YtleonalpeicjaaaOctOctetsStops
import Derived.Test.YtleonalpeicjaaaPSx28
import Derived.Test.YtleonalpeicjaaaPSx29
import Derived.Test.YtleonalpeicjaaaPSx30
import Derived.Test.YtleonalpeicjaaaPSx31
import Derived.Test.YtleonalpeicjaaaPSx32
import Derived.Test.YtleonalpeicjaaaPSx33
import Derived.Test.YtleonalpeicjaaaPSx34
import Derived.Test.YtleonalpeicjaaaPSx35
import Derived.Test.YtleonalpeicjaaaPSx37
namespace Go.Proofs.Ytleonalpeicjaaa.Pure
open Go.RowKit Go.Proofs.YtleonalpeicjaaaW.PrintWords Go.Proofs.YtleonalpeicjaaaW.PrintLast Go.Proofs.YtleonalpeicjaaaW.PrintMore Go.Proofs.Ytleonalpeicjaaa.PS Go.Proofs.Ytleonalpeicjaaa.Base Go.Proofs.Ytleonalpeicjaaa.Oct
section
variable (B : List Int) (hb : Bytes B) (hl : B.length ≤ 140737488351232)
include hb hl
theorem num_any (a e n : Int) (h0 : 0 ≤ a) (h1 : a ≤ B.length) (hn : -9223372036854775808 ≤ n ∧ n ≤ 9223372036854775807) :
    ∃ v a' e', Ev (fun k => octets_Reader_Num.f k B a e n) (v, a', e') ∧ a ≤ a' ∧ a' ≤ B.length ∧ (e ≠ 0 → v = 0 ∧ a' = a ∧ e' = e) ∧ (v ≠ 0 → a' = a + n ∧ 1 ≤ n) := by
  unfold octets_Reader_Num.f
  have e0 : octets_Reader_over.f B a e = some (e != 0, a, e) := rfl
  by_cases he : e = 0
  · subst he
    have hg := Get_ev B a n hb (by omega) (by omega) (by omega) hn.1 hn.2
    have hc : (getE B a n = (0, 1) ∨ getE B a n = (0, 3)) ∨ (1 ≤ n ∧ n ≤ 8 ∧ a + n ≤ B.length ∧ ∃ v, getE B a n = (v, 0)) := by
      unfold getE
      by_cases c1 : n < 1 ∨ 8 < n
      · rw [if_pos c1]; exact .inl (.inl rfl)
      · rw [if_neg c1]
        by_cases c2 : a < 0 ∨ (B.length : Int) < a ∨ (B.length : Int) - a < n
        · rw [if_pos c2]; exact .inl (.inr rfl)
        · rw [if_neg c2]; exact .inr ⟨by omega, by omega, by omega, _, rfl⟩
    rcases hc with hc | ⟨n1, n8, hr, v, hv⟩
    · obtain ⟨e', hne, hv⟩ : ∃ e', e' ≠ 0 ∧ getE B a n = (0, e') := by
        rcases hc with h | h
        · exact ⟨1, by decide, h⟩
        · exact ⟨3, by decide, h⟩
      refine ⟨0, a, e', ?_, by omega, h1, fun h => absurd rfl h, fun h => absurd rfl h⟩
      refine Ev.bind0 e0 (Ev.iteF (by simp) ?_)
      rw [hv] at hg
      exact Ev.bind hg (Ev.iteF hne (Ev.now _))
    · refine ⟨v, a + n, 0, ?_, by omega, hr, fun h => absurd rfl h, fun _ => ⟨rfl, n1⟩⟩
      refine Ev.bind0 e0 (Ev.iteF (by simp) ?_)
      rw [hv] at hg
      refine Ev.eq (Ev.bind hg (Ev.iteT rfl (Ev.now _))) ?_
      dsimp only
      rw [wrap64_id (by omega) (by omega)]
  · refine ⟨0, a, e, ?_, by omega, h1, fun _ => ⟨rfl, rfl, rfl⟩, fun h => absurd rfl h⟩
    exact Ev.bind0 e0 (Ev.iteT (by simp [he]) (Ev.now _))
theorem bytes_any (a e n : Int) (h0 : 0 ≤ a) (h1 : a ≤ B.length) :
    ∃ t a' e', octets_Reader_Bytes.f B a e n = some (t, a', e') ∧ a ≤ a' ∧ a' ≤ B.length ∧ (e ≠ 0 → t = [] ∧ a' = a ∧ e' = e) := by
  have _ := hb
  unfold octets_Reader_Bytes.f
  have e0 : octets_Reader_over.f B a e = some (e != 0, a, e) := rfl
  simp only [e0, Option.bind_some]
  by_cases he : e = 0
  · subst he
    rw [if_neg (by simp)]
    by_cases c1 : n < 0
    · rw [if_pos c1]; exact ⟨_, _, _, rfl, by omega, h1, fun h => absurd rfl h⟩
    rw [if_neg c1]
    have w1 : wrap64 ((B.length : Int) - a) = (B.length : Int) - a := wrap64_id (by omega) (by omega)
    by_cases c2 : n > wrap64 ((B.length : Int) - a)
    · rw [if_pos c2]; exact ⟨_, _, _, rfl, by omega, h1, fun h => absurd rfl h⟩
    rw [if_neg c2]
    rw [w1] at c2
    have w2 : wrap64 (a + n) = a + n := wrap64_id (by omega) (by omega)
    have w3 : wrap64 (a + n - n) = a := by rw [wrap64_id (by omega) (by omega)]; omega
    rw [w2, w3, if_pos h0, if_pos (by omega), if_pos (by omega), if_pos (by simp; omega)]
    exact ⟨_, _, _, rfl, by omega, by omega, fun h => absurd rfl h⟩
  · rw [if_pos (by simp [he])]
    exact ⟨_, _, _, rfl, by omega, h1, fun _ => ⟨rfl, rfl, rfl⟩⟩
theorem text_any (a e n : Int) (h0 : 0 ≤ a) (h1 : a ≤ B.length) :
    ∃ t a' e', Ev (fun k => octets_Reader_Text.f k B a e n) (t, a', e') ∧ a ≤ a' ∧ a' ≤ B.length ∧ (e ≠ 0 → t = [] ∧ a' = a ∧ e' = e) := by
  unfold octets_Reader_Text.f
  have e0 : octets_Reader_over.f B a e = some (e != 0, a, e) := rfl
  by_cases he : e = 0
  · subst he
    obtain ⟨v, a1, e1, hv, ha1, hb1, _, _⟩ := num_any B hb hl a 0 2 h0 h1 (by omega)
    have hj : ∀ (x6 : Int) (b : Bool), ∃ t a' e', Ev (fun k => octets_Reader_Text.j0 k a x6 b B a1 e1) (t, a', e') ∧ a ≤ a' ∧ a' ≤ B.length := by
      intro x6 b
      cases b
      · obtain ⟨t, a2, e2, hb2, ha2, hc2, _⟩ := bytes_any B hb hl a1 e1 x6 (by omega) hb1
        by_cases c : e2 = 0
        · exact ⟨t, a2, e2, Ev.step (fun k => by rw [octets_Reader_Text.j0]) (Ev.iteF (by decide) (Ev.bind0 hb2 (Ev.iteT c (Ev.now _)))), by omega, hc2⟩
        · exact ⟨t, a, e2, Ev.step (fun k => by rw [octets_Reader_Text.j0]) (Ev.iteF (by decide) (Ev.bind0 hb2 (Ev.iteF c (Ev.now _)))), by omega, h1⟩
      · obtain ⟨t, a2, e2, hb2, ha2, hc2, _⟩ := bytes_any B hb hl a1 5 x6 (by omega) hb1
        by_cases c : e2 = 0
        · exact ⟨t, a2, e2, Ev.step (fun k => by rw [octets_Reader_Text.j0]) (Ev.iteT rfl (Ev.bind0 hb2 (Ev.iteT c (Ev.now _)))), by omega, hc2⟩
        · exact ⟨t, a, e2, Ev.step (fun k => by rw [octets_Reader_Text.j0]) (Ev.iteT rfl (Ev.bind0 hb2 (Ev.iteF c (Ev.now _)))), by omega, h1⟩
    by_cases c : e1 = 0
    · obtain ⟨t, a', e', h, h2, h3⟩ := hj (wrap64 v) (decide (wrap64 v > n))
      exact ⟨t, a', e', Ev.bind0 e0 (Ev.iteF (by simp) (Ev.bind hv (Ev.iteT c h))), h2, h3, fun h => absurd rfl h⟩
    · obtain ⟨t, a', e', h, h2, h3⟩ := hj (wrap64 v) false
      exact ⟨t, a', e', Ev.bind0 e0 (Ev.iteF (by simp) (Ev.bind hv (Ev.iteF c h))), h2, h3, fun h => absurd rfl h⟩
  · exact ⟨[], a, e, Ev.bind0 e0 (Ev.iteT (by simp [he]) (Ev.now _)), by omega, h1, fun _ => ⟨rfl, rfl, rfl⟩⟩
theorem flag_any (a e : Int) (h0 : 0 ≤ a) (h1 : a ≤ B.length) :
    ∃ t a' e', Ev (fun k => octets_Reader_Flag.f k B a e) (t, a', e') ∧ a ≤ a' ∧ a' ≤ B.length ∧ (e ≠ 0 → t = false ∧ a' = a ∧ e' = e) := by
  unfold octets_Reader_Flag.f
  have e0 : octets_Reader_over.f B a e = some (e != 0, a, e) := rfl
  by_cases he : e = 0
  · subst he
    obtain ⟨v, a1, e1, hv, ha1, hb1, _, hv1⟩ := num_any B hb hl a 0 1 h0 h1 (by omega)
    by_cases c : v > 1
    · have hz := hv1 (by omega)
      have w1 : wrap64 (a1 - 1) = a := by rw [wrap64_id (by omega) (by omega)]; omega
      by_cases c2 : v = 1
      · omega
      · refine ⟨false, wrap64 (a1 - 1), 4, Ev.bind0 e0 (Ev.iteF (by simp) (Ev.bind hv (Ev.iteT c (Ev.iteF c2 (Ev.now _))))), by omega, by omega, fun h => absurd rfl h⟩
    · by_cases c2 : v = 1
      · exact ⟨_, a1, e1, Ev.bind0 e0 (Ev.iteF (by simp) (Ev.bind hv (Ev.iteF c (Ev.iteT c2 (Ev.now _))))), ha1, hb1, fun h => absurd rfl h⟩
      · exact ⟨_, a1, e1, Ev.bind0 e0 (Ev.iteF (by simp) (Ev.bind hv (Ev.iteF c (Ev.iteF c2 (Ev.now _))))), ha1, hb1, fun h => absurd rfl h⟩
  · exact ⟨false, a, e, Ev.bind0 e0 (Ev.iteT (by simp [he]) (Ev.now _)), by omega, h1, fun _ => ⟨rfl, rfl, rfl⟩⟩
end
theorem end_eq (B : List Int) (a e : Int) : octets_Reader_End.f B a e = some (if e = 0 then (if a < B.length then 5 else 0) else e, a, e) := by
  unfold octets_Reader_End.f
  split
  · split <;> rfl
  · rfl
theorem at_eq (B : List Int) (a e : Int) : octets_Reader_At.f B a e = some (a, a, e) := rfl
theorem new_eq (l : List Int) (h : l.length < 140737488355328) : octets_NewReader.f l = some (l, 0, 0) := by
  unfold octets_NewReader.f
  rw [if_pos h]
theorem stops_loop (B : List Int) (hb : Bytes B) (hl : B.length ≤ 140737488351232) (l : List S42) (hk : ∀ x ∈ l, ok42 x) (hn : l.length ≤ 300) : ∀ (d i : Nat) (a e : Int), i + d = l.length → 0 ≤ a → a ≤ B.length →
    Ev (fun k => terrierlaw01_OctetsStops.l0 k B l (l.length : Int) i B a e) true
  | 0, i, a, e, hi, _, _ => by
    refine Ev.step (fun k => by rw [terrierlaw01_OctetsStops.l0]) (Ev.iteF (by omega) ?_)
    refine Ev.bind0 (new_eq [9] (by simp)) (Ev.bind0 (end_eq _ _ _) ?_)
    exact Ev.now _
  | d + 1, i, a, e, hi, h0, h1 => by
    have hj : ∀ (v t : Int) (f : Bool) (a' e' : Int), a ≤ a' → a' ≤ B.length → (e ≠ 0 → v = 0 ∧ t = 0 ∧ f = false ∧ a' = a ∧ e' = e) →
        Ev (fun k => terrierlaw01_OctetsStops.j1 k B (if e = 0 then (if a < B.length then 5 else 0) else e) a v t f l (l.length : Int) i B a' e') true := by
      intro v t f a' e' ha hb' hs
      have next := stops_loop B hb hl l hk hn d (i + 1) a' e' (by omega) (by omega) hb'
      refine Ev.step (fun k => by rw [terrierlaw01_OctetsStops.j1]) (Ev.bind0 (at_eq _ _ _) (Ev.iteF (show ¬ a' < a by omega) (Ev.bind0 (at_eq _ _ _) (Ev.iteF (show ¬ a' > (B.length : Int) by omega) ?_))))
      rw [wrapInc (by omega)]
      by_cases c0 : (if e = 0 then (if a < (B.length : Int) then (5 : Int) else 0) else e) = 0
      · exact Ev.iteT c0 next
      refine Ev.iteF c0 ?_
      by_cases c5 : (if e = 0 then (if a < (B.length : Int) then (5 : Int) else 0) else e) = 5
      · exact Ev.iteT c5 next
      refine Ev.iteF c5 ?_
      have he : e ≠ 0 := by
        intro h
        rw [if_pos h] at c0 c5
        by_cases h2 : a < (B.length : Int)
        · rw [if_pos h2] at c5; exact c5 rfl
        · rw [if_neg h2] at c0; exact c0 rfl
      obtain ⟨rfl, rfl, rfl, rfl, rfl⟩ := hs he
      refine Ev.bind0 (end_eq _ _ _) (Ev.iteT rfl (Ev.bind0 (at_eq _ _ _) (Ev.iteT rfl (Ev.iteT rfl (Ev.iteT rfl (Ev.iteF (by decide) next))))))
    have hd : ∃ x, l[i]? = some x := ⟨l[i]'(by omega), List.getElem?_eq_getElem (by omega)⟩
    obtain ⟨x, hx⟩ := hd
    have hm : x ∈ l := List.mem_of_getElem? hx
    have hr : rd_T42 l i = x := by simp [rd_T42, List.getD_eq_getElem?_getD, hx]
    have hw := wf_i64.1 (hk x hm).2
    refine Ev.step (fun k => by rw [terrierlaw01_OctetsStops.l0]) (Ev.iteT (by omega) (Ev.iteT (by omega) (Ev.iteT (by omega) ?_)))
    rw [hr]
    refine Ev.bind0 (end_eq _ _ _) (Ev.bind0 (at_eq _ _ _) ?_)
    by_cases k0 : x.f0 = 0
    · obtain ⟨v, a', e', hv, q1, q2, q3, _⟩ := num_any B hb hl a e x.f1 h0 h1 hw
      exact Ev.iteT k0 (Ev.bind hv (hj _ _ _ _ _ q1 q2 (fun h => ⟨(q3 h).1, rfl, rfl, (q3 h).2.1, (q3 h).2.2⟩)))
    refine Ev.iteF k0 ?_
    by_cases k1 : x.f0 = 1
    · obtain ⟨t, a', e', hv, q1, q2, q3⟩ := bytes_any B hb hl a e x.f1 h0 h1
      exact Ev.iteT k1 (Ev.bind0 hv (hj _ _ _ _ _ q1 q2 (fun h => ⟨rfl, by rw [(q3 h).1]; rfl, rfl, (q3 h).2.1, (q3 h).2.2⟩)))
    refine Ev.iteF k1 ?_
    by_cases k2 : x.f0 = 2
    · obtain ⟨t, a', e', hv, q1, q2, q3⟩ := text_any B hb hl a e x.f1 h0 h1
      exact Ev.iteT k2 (Ev.bind hv (hj _ _ _ _ _ q1 q2 (fun h => ⟨rfl, by rw [(q3 h).1]; rfl, rfl, (q3 h).2.1, (q3 h).2.2⟩)))
    · obtain ⟨t, a', e', hv, q1, q2, q3⟩ := flag_any B hb hl a e h0 h1
      exact Ev.iteF k2 (Ev.bind hv (hj _ _ _ _ _ q1 q2 (fun h => ⟨rfl, rfl, (q3 h).1, (q3 h).2.1, (q3 h).2.2⟩)))
theorem OctetsStops : terrierlaw01_OctetsStops.Pure := by
  intro B l hB hk
  have hb : Bytes B := bytes_of_wf hB.1
  have hl : B.length ≤ 140737488351232 := by have := hB.2.1; omega
  refine Ev.rounds ?_
  unfold terrierlaw01_OctetsStops.f
  refine Ev.bind0 (new_eq B (by omega)) ?_
  by_cases c : (l.length : Int) > 300
  · exact Ev.iteT c (Ev.now _)
  · exact Ev.iteF c (stops_loop B hb hl l hk.1 (by omega) l.length 0 0 0 (by omega) (by omega) (by omega))
end Go.Proofs.Ytleonalpeicjaaa.Pure
