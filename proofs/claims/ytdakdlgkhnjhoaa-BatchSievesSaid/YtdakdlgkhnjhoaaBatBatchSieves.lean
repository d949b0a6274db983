/- What the functions of package batch, and the document's for its layer, compute, as plain lists of events. -/
import Derived.Test.YtdakdlgkhnjhoaaOctBatchSieves
import Derived.Test.YtdakdlgkhnjhoaaPAx1
import Derived.Test.YtdakdlgkhnjhoaaPAx11
import Derived.Test.YtdakdlgkhnjhoaaPAx13
import Derived.Test.YtdakdlgkhnjhoaaPAx2
import Derived.Test.YtdakdlgkhnjhoaaPAx3
import Derived.Test.YtdakdlgkhnjhoaaPAx4
import Derived.Test.YtdakdlgkhnjhoaaPAx5
import Derived.Test.YtdakdlgkhnjhoaaPAx6
import Derived.Test.YtdakdlgkhnjhoaaPAx7
import Derived.Test.YtdakdlgkhnjhoaaPAx8
namespace Go.Proofs.Ytdakdlgkhnjhoaa.Bat
open Go.RowKit Go.Proofs.YtdakdlgkhnjhoaaW.PrintWords Go.Proofs.YtdakdlgkhnjhoaaW.PrintLast Go.Proofs.YtdakdlgkhnjhoaaW.PrintMore Go.Proofs.Ytdakdlgkhnjhoaa.PA Go.Proofs.Ytdakdlgkhnjhoaa.Base Go.Proofs.Ytdakdlgkhnjhoaa.Oct

/-- A record's keys and values are bytes, and no longer than memory lets them be. -/
def RecOk (x : S36) : Prop := Bytes x.f0 ∧ Bytes x.f1 ∧ x.f0.length ≤ 140737488351232 ∧ x.f1.length ≤ 140737488351232
def EvOk (x : S38) : Prop := RecOk x.f1 ∧ RecOk x.f3
theorem rd_at {l : List S38} {i : Nat} (h : i < l.length) : rd_T38 l (i : Int) = l[i] := by
  simp [rd_T38, List.getD_eq_getElem?_getD, List.getElem?_eq_getElem h]
theorem at_ok {l : List S38} (hl : ∀ x ∈ l, EvOk x) {i : Nat} (h : i < l.length) : EvOk l[i] := hl _ (List.getElem_mem h)
theorem ev_nil : EvOk z38 := ⟨⟨bytes_nil, bytes_nil, by simp [z38, z36], by simp [z38, z36]⟩, bytes_nil, bytes_nil, by simp [z38, z36], by simp [z38, z36]⟩

/-! ### whether two rows are the same -/
theorem rec_ext (x y : S36) : x = y ↔ x.f0 = y.f0 ∧ x.f1 = y.f1 ∧ x.f2 = y.f2 ∧ x.f3 = y.f3 ∧ x.f4 = y.f4 ∧ x.f5 = y.f5 := by
  constructor
  · rintro rfl; exact ⟨rfl, rfl, rfl, rfl, rfl, rfl⟩
  · cases x; cases y
    rintro ⟨h1, h2, h3, h4, h5, h6⟩
    dsimp only at h1 h2 h3 h4 h5 h6
    subst h1; subst h2; subst h3; subst h4; subst h5; subst h6; rfl
theorem ev_ext (x y : S38) : x = y ↔ x.f0 = y.f0 ∧ x.f1 = y.f1 ∧ x.f2 = y.f2 ∧ x.f3 = y.f3 := by
  constructor
  · rintro rfl; exact ⟨rfl, rfl, rfl, rfl⟩
  · cases x; cases y
    rintro ⟨h1, h2, h3, h4⟩
    dsimp only at h1 h2 h3 h4
    subst h1; subst h2; subst h3; subst h4; rfl
theorem refRecSame_eq {x y : S36} (hx : RecOk x) (hy : RecOk y) : ∃ b, terrierref13_Same.f x.f0 x.f1 x.f2 x.f3 x.f4 x.f5 y.f0 y.f1 y.f2 y.f3 y.f4 y.f5 = some b ∧ (b = true ↔ x = y) := by
  rw [rec_ext]
  unfold terrierref13_Same.f
  rw [Same_eq hx.1 hy.1, Same_eq hx.2.1 hy.2.1]
  by_cases h1 : x.f0 = y.f0
  · by_cases h2 : x.f1 = y.f1
    · by_cases h3 : x.f2 = y.f2
      · by_cases h4 : x.f3 = y.f3
        · by_cases h5 : x.f4 = y.f4
          · by_cases h6 : x.f5 = y.f5 <;> simp [h1, h2, h3, h4, h5, h6]
          · simp [h1, h2, h3, h4, h5]
        · simp [h1, h2, h3, h4]
      · simp [h1, h2, h3]
    · simp [h1, h2]
  · simp [h1]
theorem refSame_loop (l m : List S38) (hl : ∀ x ∈ l, EvOk x) (hm : ∀ x ∈ m, EvOk x) (hn : l.length = m.length) (hln : l.length ≤ 9223372036854775800) : ∀ (d i : Nat), i + d = l.length → ∃ b, Ev (fun k => terrierref17_Same.l0 k l m (l.length : Int) i) b ∧ (b = true ↔ l.drop i = m.drop i)
  | 0, i, hi => by
    refine ⟨true, Ev.step (fun k => by rw [terrierref17_Same.l0]) (Ev.iteF (by omega) (Ev.now _)), ?_⟩
    rw [List.drop_of_length_le (by omega), List.drop_of_length_le (by omega)]
    simp
  | d + 1, i, hi => by
    have h1 : i < l.length := by omega
    have h2 : i < m.length := by omega
    obtain ⟨b1, hb1, hb1'⟩ := refRecSame_eq (at_ok hl h1).1 (at_ok hm h2).1
    obtain ⟨b2, hb2, hb2'⟩ := refRecSame_eq (at_ok hl h1).2 (at_ok hm h2).2
    obtain ⟨c, hc, hc2⟩ := refSame_loop l m hl hm hn hln d (i + 1) (by omega)
    have no : ∀ f : Bool, f = true → Ev (fun k => terrierref17_Same.j1 k l m (l.length : Int) i f) false := fun f hf => Ev.step (fun k => by rw [terrierref17_Same.j1]) (Ev.iteT hf (Ev.now _))
    have yes : Ev (fun k => terrierref17_Same.j1 k l m (l.length : Int) i false) c := by
      refine Ev.step (fun k => by rw [terrierref17_Same.j1]) (Ev.iteF (by simp) ?_)
      rw [wrapInc (by omega)]
      exact hc
    rw [List.drop_eq_getElem_cons h1, List.drop_eq_getElem_cons h2, List.cons.injEq, ev_ext]
    have i0 : (i : Int) < l.length := by omega
    have i1 : (i : Int) < m.length := by omega
    have i2 : (0 : Int) ≤ i := by omega
    rw [← rd_at h1, ← rd_at h2] at *
    have stp := fun k => (show terrierref17_Same.l0 (k + 1) l m (l.length : Int) i = _ from by rw [terrierref17_Same.l0])
    by_cases c0 : (rd_T38 l i).f0 = (rd_T38 m i).f0
    · by_cases c2 : (rd_T38 l i).f2 = (rd_T38 m i).f2
      · cases b1
        · refine ⟨false, Ev.step stp ?_, by simp only [Bool.false_eq_true, false_iff]; intro z; exact absurd (hb1'.2 z.1.2.1) (by simp)⟩
          simp only [i0, i1, i2, c0, c2, hb1, if_true, Option.bind_some, bne_self_eq_false, Bool.false_eq_true, if_false, Bool.not_false, Bool.not_true]
          first | exact no _ rfl | exact Ev.now _
        · cases b2
          · refine ⟨false, Ev.step stp ?_, by simp only [Bool.false_eq_true, false_iff]; intro z; exact absurd (hb2'.2 z.1.2.2.2) (by simp)⟩
            simp only [i0, i1, i2, c0, c2, hb1, hb2, if_true, Option.bind_some, bne_self_eq_false, Bool.false_eq_true, if_false, Bool.not_false, Bool.not_true]
            first | exact no _ rfl | exact Ev.now _
          · refine ⟨c, Ev.step stp ?_, by rw [hc2]; simp [c0, c2, hb1'.1 rfl, hb2'.1 rfl]⟩
            simp only [i0, i1, i2, c0, c2, hb1, hb2, if_true, Option.bind_some, bne_self_eq_false, Bool.false_eq_true, if_false, Bool.not_false, Bool.not_true]
            exact yes
      · refine ⟨false, Ev.step stp ?_, by simp [c2]⟩
        have c2' : ((rd_T38 l i).f2 != (rd_T38 m i).f2) = true := by simpa using c2
        simp only [i0, i1, i2, c0, c2, c2', if_true, if_false]
        first | exact no _ rfl | exact Ev.now _
    · refine ⟨false, Ev.step stp ?_, by simp [c0]⟩
      simp only [i0, i1, i2, c0, if_true, if_false]
      first | exact no _ rfl | exact Ev.now _
theorem refSame_ev (l m : List S38) (hl : ∀ x ∈ l, EvOk x) (hm : ∀ x ∈ m, EvOk x) (hln : l.length ≤ 9223372036854775800) : ∃ b, Ev (fun k => terrierref17_Same.f k l m) b ∧ (b = true ↔ l = m) := by
  unfold terrierref17_Same.f
  by_cases h : (l.length : Int) = m.length
  · obtain ⟨b, hb, hb2⟩ := refSame_loop l m hl hm (by omega) hln l.length 0 (by omega)
    exact ⟨b, Ev.iteT h hb, by simpa using hb2⟩
  · refine ⟨false, Ev.iteF h (Ev.now _), ?_⟩
    simp only [Bool.false_eq_true, false_iff]
    rintro rfl; exact h rfl
theorem twin_eq {x : S38} (hx : EvOk x) : batch_twin.f x.f0 x.f1.f0 x.f1.f1 x.f1.f2 x.f1.f3 x.f1.f4 x.f1.f5 x.f2 x.f3.f0 x.f3.f1 x.f3.f2 x.f3.f3 x.f3.f4 x.f3.f5 = some (x.f0, x.f1.f0, x.f1.f1, x.f1.f2, x.f1.f3, x.f1.f4, x.f1.f5, x.f2, x.f3.f0, x.f3.f1, x.f3.f2, x.f3.f3, x.f3.f4, x.f3.f5) := by
  obtain ⟨⟨_, _, h1, h2⟩, _, _, h3, h4⟩ := hx
  unfold batch_twin.f record_Twin.f
  rw [Clone_eq (by omega), Clone_eq (by omega), Clone_eq (by omega), Clone_eq (by omega)]
  rfl
theorem twins_loop (l : List S38) (hl : ∀ x ∈ l, EvOk x) (hn : l.length ≤ 799644820200) : ∀ (d i : Nat), i + d = l.length → Ev (fun k => batch_twins.l0 k (l.take i) l (l.length : Int) i) l
  | 0, i, hi => by
    refine Ev.step (fun k => by rw [batch_twins.l0]) (Ev.iteF (by omega) ?_)
    rw [List.take_of_length_le (by omega)]
    exact Ev.now _
  | d + 1, i, hi => by
    have h1 : i < l.length := by omega
    refine Ev.step (fun k => by rw [batch_twins.l0]) (Ev.iteT (by omega) (Ev.iteT (by omega) (Ev.iteT (by omega) ?_)))
    rw [rd_at h1]
    refine Ev.bind0 (twin_eq (at_ok hl h1)) (Ev.iteT (by simp; omega) ?_)
    rw [wrapInc (by omega)]
    have := twins_loop l hl hn d (i + 1) (by omega)
    rw [List.take_succ_eq_append_getElem h1] at this
    exact this
theorem twins_ev (l : List S38) (hl : ∀ x ∈ l, EvOk x) (hn : l.length ≤ 799644820200) : Ev (fun k => batch_twins.f k l) l := by
  unfold batch_twins.f
  exact twins_loop l hl hn l.length 0 (by omega)
theorem few_loop (l : List S38) (hl : ∀ x ∈ l, EvOk x) (hn : l.length ≤ 80) : ∀ (d i : Nat), i + d = l.length → ∃ b, Ev (fun k => terrierlaw17_few.l0 k l (l.length : Int) i) b
  | 0, i, hi => ⟨true, Ev.step (fun k => by rw [terrierlaw17_few.l0]) (Ev.iteF (by omega) (Ev.now _))⟩
  | d + 1, i, hi => by
    have h1 : i < l.length := by omega
    obtain ⟨b, hb⟩ := few_loop l hl hn d (i + 1) (by omega)
    have go : ∀ r, Ev (fun k => if wrap64 ((l[i].f1.f0.length : Int) + l[i].f3.f0.length) > 200 then some false else (if wrap64 ((l[i].f1.f1.length : Int) + l[i].f3.f1.length) > 2000 then some false else terrierlaw17_few.l0 k l (l.length : Int) (wrap64 ((i : Int) + 1)))) r → Ev (fun k => terrierlaw17_few.l0 k l (l.length : Int) i) r := by
      intro r hr
      refine Ev.step (fun k => by rw [terrierlaw17_few.l0]) (Ev.iteT (by omega) (Ev.iteT (by omega) (Ev.iteT (by omega) ?_)))
      rw [rd_at h1]
      exact hr
    by_cases c1 : wrap64 ((l[i].f1.f0.length : Int) + l[i].f3.f0.length) > 200
    · exact ⟨false, go _ (Ev.iteT c1 (Ev.now _))⟩
    by_cases c2 : wrap64 ((l[i].f1.f1.length : Int) + l[i].f3.f1.length) > 2000
    · exact ⟨false, go _ (Ev.iteF c1 (Ev.iteT c2 (Ev.now _)))⟩
    refine ⟨b, go _ (Ev.iteF c1 (Ev.iteF c2 ?_))⟩
    rw [wrapInc (by omega)]
    exact hb
theorem few_ev (l : List S38) (hl : ∀ x ∈ l, EvOk x) : ∃ b, Ev (fun k => terrierlaw17_few.f k l) b ∧ (b = true → l.length ≤ 80) := by
  unfold terrierlaw17_few.f
  by_cases c : (l.length : Int) > 80
  · exact ⟨false, Ev.iteT c (Ev.now _), by simp⟩
  · obtain ⟨b, hb⟩ := few_loop l hl (by omega) l.length 0 (by omega)
    exact ⟨b, Ev.iteF c hb, fun _ => by omega⟩
/-! ### how many events are the first whole revisions -/
abbrev mod_ (x : S38) : Int := x.f1.f3
/-- What is known of n where one may stand between two revisions. -/
def Edge (l : List S38) (most : Int) (n : Nat) : Prop := n ≤ l.length ∧ (∀ h : n < l.length, 0 < n → mod_ (l[n]'h) ≠ mod_ (l[n - 1]'(by omega))) ∧ ∀ h : 0 < n, ∀ h2 : n ≤ l.length, (n : Int) ≤ most ∨ mod_ (l[n - 1]'(by omega)) = mod_ (l[0]'(by omega))
section
variable (l : List S38) (most : Int) (hn : l.length ≤ 799644820200)
include hn
theorem cut_loop : ∀ (d n : Nat), n + d = l.length → Edge l most n → ∃ r, Ev (fun k => batch_cut.l0 k l most n) (r : Nat) ∧ Edge l most r ∧ n ≤ r ∧ (0 < l.length → 0 < r) := by
  intro d
  induction d using Nat.strongRecOn with
  | _ d ih =>
  intro n hnd hE
  by_cases hend : n < l.length
  · -- the run that begins at n
    have run : ∀ (c e : Nat), e + c = l.length → n < e → ∀ hel0 : e ≤ l.length, (∀ j, n ≤ j → ∀ h : j < e, mod_ (l[j]'(by omega)) = mod_ (l[n]'hend)) →
        ∃ r, Ev (fun k => batch_cut.l1 k l most n e) (r : Nat) ∧ Edge l most r ∧ n ≤ r ∧ (0 < l.length → 0 < r) := by
      intro c
      induction c with
      | zero =>
        intro e he hne hel hsame
        have hel' : e = l.length := by omega
        have close : ∀ r, Ev (fun k => if (n : Int) > 0 then (if (e : Int) > most then some (n : Int) else batch_cut.l0 k l most (e : Int)) else batch_cut.l0 k l most (e : Int)) r → Ev (fun k => batch_cut.l1 k l most n e) r := by
          intro r hr
          exact Ev.step (fun k => by rw [batch_cut.l1]) (Ev.iteF (by omega) hr)
        have hmod : mod_ (l[e - 1]'(by omega)) = mod_ (l[n]'hend) := hsame (e - 1) (by omega) (by omega)
        by_cases h0 : 0 < n
        · by_cases hm : (e : Int) > most
          · exact ⟨n, close _ (Ev.iteT (by omega) (Ev.iteT hm (Ev.now _))), hE, Nat.le_refl _, fun _ => h0⟩
          · have hEe : Edge l most e := ⟨hel, fun h => by omega, fun _ _ => .inl (by omega)⟩
            obtain ⟨r, h1, h2, h3, h4⟩ := ih (l.length - e) (by omega) e (by omega) hEe
            exact ⟨r, close _ (Ev.iteT (by omega) (Ev.iteF hm h1)), h2, by omega, h4⟩
        · have hn0 : n = 0 := by omega
          subst hn0
          have hEe : Edge l most e := ⟨hel, fun h => by omega, fun _ _ => .inr hmod⟩
          obtain ⟨r, h1, h2, h3, h4⟩ := ih (l.length - e) (by omega) e (by omega) hEe
          exact ⟨r, close _ (Ev.iteF (by omega) h1), h2, by omega, h4⟩
      | succ c ihc =>
        intro e he hne hel hsame
        have hlt : e < l.length := by omega
        have close : ∀ r, Ev (fun k => if (rd_T38 l (e : Int)).f1.f3 = (rd_T38 l (n : Int)).f1.f3 then batch_cut.l1 k l most n (wrap64 ((e : Int) + 1)) else (if (n : Int) > 0 then (if (e : Int) > most then some (n : Int) else batch_cut.l0 k l most (e : Int)) else batch_cut.l0 k l most (e : Int))) r → Ev (fun k => batch_cut.l1 k l most n e) r := by
          intro r hr
          exact Ev.step (fun k => by rw [batch_cut.l1]) (Ev.iteT (by omega) (Ev.iteT (by omega) (Ev.iteT (by omega) (Ev.iteT (by omega) hr))))
        have hmod : mod_ (l[e - 1]'(by omega)) = mod_ (l[n]'hend) := hsame (e - 1) (by omega) (by omega)
        rw [rd_at hlt, rd_at hend] at close
        by_cases hs : l[e].f1.f3 = l[n].f1.f3
        · obtain ⟨r, h1, h2, h3, h4⟩ := ihc (e + 1) (by omega) (by omega) (by omega) (fun j hj h => by
            by_cases hje : j = e
            · subst hje; exact hs
            · exact hsame j hj (by omega))
          refine ⟨r, close _ (Ev.iteT hs ?_), h2, h3, h4⟩
          rw [wrapInc (by omega)]
          exact h1
        · by_cases h0 : 0 < n
          · by_cases hm : (e : Int) > most
            · exact ⟨n, close _ (Ev.iteF hs (Ev.iteT (by omega) (Ev.iteT hm (Ev.now _)))), hE, Nat.le_refl _, fun _ => h0⟩
            · have hEe : Edge l most e := ⟨hel, fun h _ => by rw [hmod]; exact hs, fun _ _ => .inl (by omega)⟩
              obtain ⟨r, h1, h2, h3, h4⟩ := ih (l.length - e) (by omega) e (by omega) hEe
              exact ⟨r, close _ (Ev.iteF hs (Ev.iteT (by omega) (Ev.iteF hm h1))), h2, by omega, h4⟩
          · have hn0 : n = 0 := by omega
            subst hn0
            have hEe : Edge l most e := ⟨hel, fun h _ => by rw [hmod]; exact hs, fun _ _ => .inr hmod⟩
            obtain ⟨r, h1, h2, h3, h4⟩ := ih (l.length - e) (by omega) e (by omega) hEe
            exact ⟨r, close _ (Ev.iteF hs (Ev.iteF (by omega) h1)), h2, by omega, h4⟩
    obtain ⟨r, h1, h2, h3, h4⟩ := run (l.length - (n + 1)) (n + 1) (by omega) (by omega) (by omega) (fun j hj h => by
      have : j = n := by omega
      subst this; rfl)
    refine ⟨r, Ev.step (fun k => by rw [batch_cut.l0]) (Ev.iteT (by omega) ?_), h2, h3, h4⟩
    rw [wrapInc (by omega)]
    exact h1
  · exact ⟨n, Ev.step (fun k => by rw [batch_cut.l0]) (Ev.iteF (by omega) (Ev.now _)), hE, Nat.le_refl _, fun h => by omega⟩
theorem cut_ev : ∃ r : Nat, Ev (fun k => batch_cut.f k l most) (r : Int) ∧ Edge l most r ∧ (0 < l.length → 0 < r) := by
  obtain ⟨r, h1, h2, _, h4⟩ := cut_loop l most hn l.length 0 (by omega) ⟨by omega, fun _ h => by omega, fun h => by omega⟩
  exact ⟨r, h1, h2, h4⟩
end
theorem lives_ev : Ev (fun k => terrierlaw17_lives.f k) true := Ev.of (fun k => terrierlaw17_lives.mono k) (k := 40) (by decide +kernel)
end Go.Proofs.Ytdakdlgkhnjhoaa.Bat
