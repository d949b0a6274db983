/- Of any events a watch wants those that the document says; what is sieved is in memory of its own; whether events never fall is as the document says: the plain statement that is left of the law BatchSieves, for any watch and any row of events. -/
import Derived.Test.YtdakdlgkhnjhoaaOctBatchSieves
import Derived.Test.YtdakdlgkhnjhoaaBatBatchSieves
import Derived.Test.YtdakdlgkhnjhoaaPAx10
import Derived.Test.YtdakdlgkhnjhoaaPAx13
import Derived.Test.YtdakdlgkhnjhoaaPAx14
import Derived.Test.YtdakdlgkhnjhoaaPAx7
import Derived.Test.YtdakdlgkhnjhoaaPAx8
set_option linter.unusedSimpArgs false
namespace Go.Proofs.Ytdakdlgkhnjhoaa.Pure
open Go.RowKit Go.Proofs.YtdakdlgkhnjhoaaW.PrintWords Go.Proofs.YtdakdlgkhnjhoaaW.PrintLast Go.Proofs.YtdakdlgkhnjhoaaW.PrintMore Go.Proofs.Ytdakdlgkhnjhoaa.PA Go.Proofs.Ytdakdlgkhnjhoaa.Base Go.Proofs.Ytdakdlgkhnjhoaa.Oct Go.Proofs.Ytdakdlgkhnjhoaa.Bat
theorem of_ok {l : List S38} (h : ∀ x ∈ l, ok38 x) : ∀ x ∈ l, EvOk x := fun x hx => by
  obtain ⟨_, ⟨h1, h2, _⟩, _, h3, h4, _⟩ := h x hx
  have a := h1.2.1
  have b := h2.2.1
  have c := h3.2.1
  have d := h4.2.1
  exact ⟨⟨bytes_of_wf h1.1, bytes_of_wf h2.1, by omega, by omega⟩, bytes_of_wf h3.1, bytes_of_wf h4.1, by omega, by omega⟩
section
variable (key e : List Int) (st : Int) (np nd pv : Bool) (hk : Bytes key) (he : Bytes e)
/-- Is an event wanted? -/
def want (x : S38) : Bool := inB x.f1.f0 key e && !(decide (x.f0 = 1) && np) && !(decide (x.f0 = 2) && nd)
/-- The event as it is told. -/
def show_ (x : S38) : S38 := if pv = true then x else ⟨x.f0, x.f1, false, z36⟩
def sieveE (l : List S38) : List S38 := (l.filter (want key e np nd)).map (show_ pv)
theorem show_ok {x : S38} (hx : EvOk x) : EvOk (show_ pv x) := by
  unfold show_
  split
  · exact hx
  · exact ⟨hx.1, bytes_nil, bytes_nil, by simp [z36], by simp [z36]⟩
theorem show_twice (x : S38) : show_ pv (show_ pv x) = show_ pv x := by
  unfold show_
  split <;> rfl
theorem want_show (x : S38) : want key e np nd (show_ pv x) = want key e np nd x := by
  unfold want show_
  split <;> rfl
theorem sieve_twice (l : List S38) : sieveE key e np nd pv (sieveE key e np nd pv l) = sieveE key e np nd pv l := by
  unfold sieveE
  have h1 : ((l.filter (want key e np nd)).map (show_ pv)).filter (want key e np nd) = (l.filter (want key e np nd)).map (show_ pv) := by
    apply List.filter_eq_self.2
    intro y hy
    obtain ⟨x, hx, rfl⟩ := List.mem_map.1 hy
    rw [want_show]
    exact (List.mem_filter.1 hx).2
  rw [h1, List.map_map]
  apply List.map_congr_left
  intro x _
  exact show_twice pv x
theorem sieve_append (l m : List S38) : sieveE key e np nd pv (l ++ m) = sieveE key e np nd pv l ++ sieveE key e np nd pv m := by simp [sieveE]
theorem sieve_ok {l : List S38} (hl : ∀ x ∈ l, EvOk x) : ∀ x ∈ sieveE key e np nd pv l, EvOk x := by
  intro y hy
  obtain ⟨x, hx, rfl⟩ := List.mem_map.1 hy
  exact show_ok pv (hl x (List.mem_filter.1 hx).1)
theorem sieve_len (l : List S38) : (sieveE key e np nd pv l).length ≤ l.length := by
  simp only [sieveE, List.length_map]
  exact List.length_filter_le _ _
include hk he
theorem Sieve_loop (l : List S38) (hl : ∀ x ∈ l, EvOk x) (hn : l.length ≤ 100000) : ∀ (d i : Nat) (acc : List S38), i + d = l.length → acc.length ≤ i →
    Ev (fun k => batch_Sieve.l0 k acc l (l.length : Int) i key e st np nd pv) (acc ++ sieveE key e np nd pv (l.drop i))
  | 0, i, acc, hi, ha => by
    refine Ev.step (fun k => by rw [batch_Sieve.l0]) (Ev.iteF (by omega) ?_)
    rw [List.drop_of_length_le (by omega)]
    simpa [sieveE] using Ev.now acc
  | d + 1, i, acc, hi, ha => by
    have h1 : i < l.length := by omega
    have hx := at_ok hl h1
    have i0 : (i : Int) < l.length := by omega
    have i1 : (0 : Int) ≤ i := by omega
    have hd : l.drop i = [l[i]] ++ l.drop (i + 1) := by rw [List.drop_eq_getElem_cons h1]; rfl
    have hinc : wrap64 ((i : Int) + 1) = ((i + 1 : Nat) : Int) := wrapInc (by omega)
    have skip_ := Sieve_loop l hl hn d (i + 1) acc (by omega) (by omega)
    have take_ := Sieve_loop l hl hn d (i + 1) (acc ++ [show_ pv l[i]]) (by omega) (by simp; omega)
    rw [hd, sieve_append]
    generalize hX : l[i] = x at *
    have j1 : ∀ b : Bool, Ev (fun k => batch_Sieve.j1 k acc l (l.length : Int) i b key e st np nd pv x.f0 x.f1.f0 x.f1.f1 x.f1.f2 x.f1.f3 x.f1.f4 x.f1.f5 x.f2 x.f3.f0 x.f3.f1 x.f3.f2 x.f3.f3 x.f3.f4 x.f3.f5)
        (acc ++ ((if b = true then [] else [show_ pv x]) ++ sieveE key e np nd pv (l.drop (i + 1)))) := by
      intro b
      refine Ev.step (fun k => by rw [batch_Sieve.j1]) ?_
      cases b
      · refine Ev.iteF (by simp) ?_
        rw [hinc]
        cases pv
        · refine Ev.iteF (by simp) (Ev.bind0 (twin_eq (x := (⟨x.f0, x.f1, false, z36⟩ : S38)) ⟨hx.1, bytes_nil, bytes_nil, by simp [z36], by simp [z36]⟩) (Ev.iteT (by omega) ?_))
          simpa [show_, z36] using take_
        · refine Ev.iteT rfl (Ev.bind0 (twin_eq hx) (Ev.iteT (by omega) ?_))
          simpa [show_] using take_
      · refine Ev.iteT rfl ?_
        rw [hinc]
        simpa using skip_
    refine Ev.step (fun k => by rw [batch_Sieve.l0]) (Ev.iteT i0 (Ev.iteT i1 (Ev.iteT i0 ?_)))
    rw [rd_at h1, hX]
    refine Ev.bind (In_ev x.f1.f0 key e hx.1.1 hk he) ?_
    have fin : ∀ b : Bool, b = (!want key e np nd x) → (if b = true then [] else [show_ pv x]) = sieveE key e np nd pv [x] := by
      intro b hb
      subst hb
      unfold sieveE
      cases h : want key e np nd x <;> simp [h]
    cases hin : inB x.f1.f0 key e
    · refine Ev.iteF (by simp) ?_
      rw [← fin true (by simp [want, hin])]
      exact j1 true
    · refine Ev.iteT rfl ?_
      by_cases k1 : x.f0 = 1
      · refine Ev.iteT k1 ?_
        cases np
        · refine Ev.iteF (by simp) (Ev.iteF (by omega) ?_)
          rw [← fin false (by simp [want, hin, k1])]
          exact j1 false
        · refine Ev.iteT rfl ?_
          rw [← fin true (by simp [want, hin, k1])]
          exact j1 true
      · refine Ev.iteF k1 ?_
        by_cases k2 : x.f0 = 2
        · refine Ev.iteT k2 ?_
          rw [← fin nd (by simp [want, hin, k2])]
          exact j1 nd
        · refine Ev.iteF k2 ?_
          rw [← fin false (by simp [want, hin, k1, k2])]
          exact j1 false
theorem Sieve_ev (l : List S38) (hl : ∀ x ∈ l, EvOk x) (hn : l.length ≤ 100000) : Ev (fun k => batch_Sieve.f k key e st np nd pv l) (sieveE key e np nd pv l) := by
  have := Sieve_loop key e st np nd pv hk he l hl hn l.length 0 [] (by omega) (by simp)
  simpa [batch_Sieve.f] using this
theorem rSieve_loop (ly : key.length ≤ 140737488351232) (le : e.length ≤ 140737488351232) (l : List S38) (hl : ∀ x ∈ l, EvOk x) (hn : l.length ≤ 100000) : ∀ (d i : Nat) (acc : List S38), i + d = l.length → acc.length ≤ i →
    Ev (fun k => terrierref17_Sieve.l0 k acc l (l.length : Int) i key e st np nd pv) (acc ++ sieveE key e np nd pv (l.drop i))
  | 0, i, acc, hi, ha => by
    refine Ev.step (fun k => by rw [terrierref17_Sieve.l0]) (Ev.iteF (by omega) ?_)
    rw [List.drop_of_length_le (by omega)]
    simpa [sieveE] using Ev.now acc
  | d + 1, i, acc, hi, ha => by
    have h1 : i < l.length := by omega
    have hx := at_ok hl h1
    have i0 : (i : Int) < l.length := by omega
    have i1 : (0 : Int) ≤ i := by omega
    have hd : l.drop i = [l[i]] ++ l.drop (i + 1) := by rw [List.drop_eq_getElem_cons h1]; rfl
    have hinc : wrap64 ((i : Int) + 1) = ((i + 1 : Nat) : Int) := wrapInc (by omega)
    have skip_ := rSieve_loop ly le l hl hn d (i + 1) acc (by omega) (by omega)
    have take_ := rSieve_loop ly le l hl hn d (i + 1) (acc ++ [show_ pv l[i]]) (by omega) (by simp; omega)
    rw [hd, sieve_append]
    generalize hX : l[i] = x at *
    have j1 : ∀ b : Bool, Ev (fun k => terrierref17_Sieve.j1 k acc l (l.length : Int) i b key e st np nd pv x.f0 x.f1.f0 x.f1.f1 x.f1.f2 x.f1.f3 x.f1.f4 x.f1.f5 x.f2 x.f3.f0 x.f3.f1 x.f3.f2 x.f3.f3 x.f3.f4 x.f3.f5)
        (acc ++ ((if b = true then [] else [show_ pv x]) ++ sieveE key e np nd pv (l.drop (i + 1)))) := by
      intro b
      refine Ev.step (fun k => by rw [terrierref17_Sieve.j1]) ?_
      cases b
      · refine Ev.iteF (by simp) ?_
        rw [hinc]
        cases pv
        · refine Ev.iteF (by simp) (Ev.iteT (by omega) ?_)
          simpa [show_, z36] using take_
        · refine Ev.iteT rfl (Ev.iteT (by omega) ?_)
          simpa [show_] using take_
      · refine Ev.iteT rfl ?_
        rw [hinc]
        simpa using skip_
    refine Ev.step (fun k => by rw [terrierref17_Sieve.l0]) (Ev.iteT i0 (Ev.iteT i1 (Ev.iteT i0 ?_)))
    rw [rd_at h1, hX]
    refine Ev.bind (refIn_ev x.f1.f0 key e hx.1.1 hk he ly le) ?_
    have fin : ∀ b : Bool, b = (!want key e np nd x) → (if b = true then [] else [show_ pv x]) = sieveE key e np nd pv [x] := by
      intro b hb
      subst hb
      unfold sieveE
      cases h : want key e np nd x <;> simp [h]
    cases hin : inB x.f1.f0 key e
    · refine Ev.iteF (by simp) ?_
      rw [← fin true (by simp [want, hin]), hinc]
      simpa using skip_
    · refine Ev.iteT rfl ?_
      by_cases k1 : x.f0 = 1
      · refine Ev.iteT k1 ?_
        cases np
        · refine Ev.iteF (by simp) (Ev.iteF (by omega) ?_)
          rw [← fin false (by simp [want, hin, k1])]
          exact j1 false
        · refine Ev.iteT rfl ?_
          rw [← fin true (by simp [want, hin, k1])]
          exact j1 true
      · refine Ev.iteF k1 ?_
        by_cases k2 : x.f0 = 2
        · refine Ev.iteT k2 ?_
          rw [← fin nd (by simp [want, hin, k2])]
          exact j1 nd
        · refine Ev.iteF k2 ?_
          rw [← fin false (by simp [want, hin, k1, k2])]
          exact j1 false
omit hk he
theorem rtwin_eq {x : S36} (h : RecOk x) : terrierref13_Twin.f x.f0 x.f1 x.f2 x.f3 x.f4 x.f5 = some (x.f0, x.f1, x.f2, x.f3, x.f4, x.f5) := by
  unfold terrierref13_Twin.f
  have h1 := h.2.2.1
  have h2 := h.2.2.2
  simp only [Twin_eq (l := x.f0) (by omega), Twin_eq (l := x.f1) (by omega), Option.bind_some]
theorem Twins_loop (l : List S38) (hl : ∀ x ∈ l, EvOk x) (hn : l.length ≤ 100000) : ∀ (d i : Nat) (acc : List S38), i + d = l.length → acc.length ≤ i →
    Ev (fun k => terrierref17_Twins.l0 k acc l (l.length : Int) i) (acc ++ l.drop i)
  | 0, i, acc, hi, ha => by
    refine Ev.step (fun k => by rw [terrierref17_Twins.l0]) (Ev.iteF (by omega) ?_)
    rw [List.drop_of_length_le (by omega)]
    simpa using Ev.now acc
  | d + 1, i, acc, hi, ha => by
    have h1 : i < l.length := by omega
    have hx := at_ok hl h1
    have hinc : wrap64 ((i : Int) + 1) = ((i + 1 : Nat) : Int) := wrapInc (by omega)
    have take_ := Twins_loop l hl hn d (i + 1) (acc ++ [l[i]]) (by omega) (by simp; omega)
    refine Ev.step (fun k => by rw [terrierref17_Twins.l0]) (Ev.iteT (by omega) (Ev.iteT (by omega) (Ev.iteT (by omega) ?_)))
    rw [rd_at h1, hinc]
    refine Ev.bind0 (rtwin_eq hx.1) (Ev.bind0 (rtwin_eq hx.2) (Ev.iteT (by omega) ?_))
    rw [List.drop_eq_getElem_cons h1]
    simpa using take_
theorem Twins_ev (l : List S38) (hl : ∀ x ∈ l, EvOk x) (hn : l.length ≤ 100000) : Ev (fun k => terrierref17_Twins.f k l) l := by
  have := Twins_loop l hl hn l.length 0 [] (by omega) (by simp)
  simpa [terrierref17_Twins.f] using this
include hk he
theorem rSieve_ev (ly : key.length ≤ 140737488351232) (le : e.length ≤ 140737488351232) (l : List S38) (hl : ∀ x ∈ l, EvOk x) (hn : l.length ≤ 100000) : Ev (fun k => terrierref17_Sieve.f k key e st np nd pv l) (sieveE key e np nd pv l) := by
  unfold terrierref17_Sieve.f
  refine Ev.bind (Twins_ev l hl hn) ?_
  have := rSieve_loop key e st np nd pv hk he ly le l hl hn l.length 0 [] (by omega) (by simp)
  simpa using this
end
/-! ### do the Mods never fall? -/
def NoFall (l : List S38) (j : Nat) : Prop := ∀ h : j < l.length, 0 < j → (l[j - 1]'(by omega)).f1.f3 ≤ (l[j]'h).f1.f3
theorem Right_loop (l : List S38) (hn : l.length ≤ 100000) : ∀ (i : Nat), i < l.length ∨ i = 0 → ∃ b, Ev (fun k => api_Event.l0 k l (i : Int)) b ∧ (b = true ↔ ∀ j, j ≤ i → NoFall l j)
  | 0, _ => ⟨true, Ev.step (fun k => by rw [api_Event.l0]) (Ev.iteF (by omega) (Ev.now _)), by
      simp only [true_iff]
      intro j hj h h0
      omega⟩
  | i + 1, hi => by
    have h1 : i + 1 < l.length := by omega
    have hw : wrap64 (((i + 1 : Nat) : Int) - 1) = (i : Int) := by unfold wrap64; omega
    obtain ⟨b, hb, hb2⟩ := Right_loop l hn i (by omega)
    have hr : ∃ t, batch_Right_1.f (l[i + 1]).f0 (l[i + 1]).f1.f0 (l[i + 1]).f1.f1 (l[i + 1]).f1.f2 (l[i + 1]).f1.f3 (l[i + 1]).f1.f4 (l[i + 1]).f1.f5 (l[i + 1]).f2 (l[i + 1]).f3.f0 (l[i + 1]).f3.f1 (l[i + 1]).f3.f2 (l[i + 1]).f3.f3 (l[i + 1]).f3.f4 (l[i + 1]).f3.f5 (l[i]).f0 (l[i]).f1.f0 (l[i]).f1.f1 (l[i]).f1.f2 (l[i]).f1.f3 (l[i]).f1.f4 (l[i]).f1.f5 (l[i]).f2 (l[i]).f3.f0 (l[i]).f3.f1 (l[i]).f3.f2 (l[i]).f3.f3 (l[i]).f3.f4 (l[i]).f3.f5 = some t ∧ (t < 0 ↔ (l[i + 1]).f1.f3 < (l[i]).f1.f3) := by
      unfold batch_Right_1.f
      by_cases c : (l[i + 1]).f1.f3 < (l[i]).f1.f3
      · exact ⟨-1, if_pos c, by simp [c]⟩
      · by_cases c2 : (l[i + 1]).f1.f3 > (l[i]).f1.f3
        · exact ⟨1, by rw [if_neg c, if_pos c2], by simp [c]⟩
        · exact ⟨0, by rw [if_neg c, if_neg c2], by simp [c]⟩
    obtain ⟨t, ht, ht2⟩ := hr
    have r1 : rd_T38 l ((i + 1 : Nat) : Int) = l[i + 1] := rd_at h1
    have r0 : rd_T38 l (i : Int) = l[i] := rd_at (by omega)
    have step : ∀ r, Ev (fun k => if t < 0 then some false else api_Event.l0 k l (i : Int)) r → Ev (fun k => api_Event.l0 k l ((i + 1 : Nat) : Int)) r := by
      intro r h
      refine Ev.step (fun k => by rw [api_Event.l0]) ?_
      rw [hw, r1, r0]
      exact Ev.iteT (by omega) (Ev.iteT (by omega) (Ev.iteT (by omega) (Ev.iteT (by omega) (Ev.iteT (by omega) (Ev.bind0 ht h)))))
    by_cases c : t < 0
    · refine ⟨false, step _ (Ev.iteT c (Ev.now _)), ?_⟩
      have := ht2.1 c
      simp only [Bool.false_eq_true, false_iff]
      intro h
      have := h (i + 1) (Nat.le_refl _) h1 (by omega)
      simp only [Nat.add_sub_cancel] at this
      omega
    · refine ⟨b, step _ (Ev.iteF c hb), hb2.trans ⟨fun h j hj => ?_, fun h j hj => h j (by omega)⟩⟩
      rcases Nat.lt_or_ge j (i + 1) with q | q
      · exact h j (by omega)
      · obtain rfl : j = i + 1 := by omega
        intro _ _
        have : ¬ (l[i + 1]).f1.f3 < (l[i]).f1.f3 := fun z => c (ht2.2 z)
        simp only [Nat.add_sub_cancel]
        omega
theorem Right_ev (l : List S38) (hn : l.length ≤ 100000) : ∃ b, Ev (fun k => batch_Right.f k l) b ∧ (b = true ↔ ∀ j, NoFall l j) := by
  unfold batch_Right.f api_Event.f
  rcases Nat.eq_zero_or_pos l.length with h | h
  · refine ⟨true, Ev.bind (a := true) ?_ (Ev.now _), ?_⟩
    · rw [h]
      refine Ev.step (fun k => by rw [api_Event.l0]) (Ev.iteF (by unfold wrap64; omega) (Ev.now _))
    · simp only [true_iff]
      intro j h1 h0
      omega
  · obtain ⟨b, hb, hb2⟩ := Right_loop l hn (l.length - 1) (by omega)
    have hw : wrap64 ((l.length : Int) - 1) = ((l.length - 1 : Nat) : Int) := by unfold wrap64; omega
    rw [hw]
    refine ⟨b, Ev.bind hb (Ev.now _), hb2.trans ⟨fun h2 j => ?_, fun h2 j _ => h2 j⟩⟩
    intro h1 h0
    exact h2 j (by omega) h1 h0
theorem rRight_loop (l : List S38) (hn : l.length ≤ 100000) : ∀ (d i : Nat), i + d = l.length → ∃ b, Ev (fun k => terrierref17_Right.l0 k l (l.length : Int) (i : Int)) b ∧ (b = true ↔ ∀ j, i ≤ j → NoFall l j)
  | 0, i, hi => ⟨true, Ev.step (fun k => by rw [terrierref17_Right.l0]) (Ev.iteF (by omega) (Ev.now _)), by
      simp only [true_iff]
      intro j hj h h0
      omega⟩
  | d + 1, i, hi => by
    have h1 : i < l.length := by omega
    have hinc : wrap64 ((i : Int) + 1) = ((i + 1 : Nat) : Int) := wrapInc (by omega)
    obtain ⟨b, hb, hb2⟩ := rRight_loop l hn d (i + 1) (by omega)
    have rest : (NoFall l i) → (b = true ↔ ∀ j, i ≤ j → NoFall l j) := fun q => hb2.trans ⟨fun h j hj => by
      rcases Nat.lt_or_ge i j with z | z
      · exact h j z
      · obtain rfl : j = i := by omega
        exact q, fun h j hj => h j (by omega)⟩
    rcases Nat.eq_zero_or_pos i with z | z
    · subst z
      refine ⟨b, Ev.step (fun k => by rw [terrierref17_Right.l0]) ?_, rest (fun _ h0 => absurd h0 (by omega))⟩
      rw [hinc]
      exact Ev.iteT (by omega) (Ev.iteF (by omega) hb)
    · have hw : wrap64 ((i : Int) - 1) = ((i - 1 : Nat) : Int) := by unfold wrap64; omega
      have r1 : rd_T38 l (i : Int) = l[i] := rd_at h1
      have r0 : rd_T38 l ((i - 1 : Nat) : Int) = l[i - 1] := rd_at (by omega)
      have step : ∀ r, Ev (fun k => if (l[i - 1]).f1.f3 > (l[i]).f1.f3 then some false else terrierref17_Right.l0 k l (l.length : Int) ((i + 1 : Nat) : Int)) r → Ev (fun k => terrierref17_Right.l0 k l (l.length : Int) (i : Int)) r := by
        intro r h
        refine Ev.step (fun k => by rw [terrierref17_Right.l0]) ?_
        rw [hw, hinc, r1, r0]
        exact Ev.iteT (by omega) (Ev.iteT (by omega) (Ev.iteT (by omega) (Ev.iteT (by omega) (Ev.iteT (by omega) (Ev.iteT (by omega) h)))))
      by_cases c : (l[i - 1]).f1.f3 > (l[i]).f1.f3
      · refine ⟨false, step _ (Ev.iteT c (Ev.now _)), ?_⟩
        simp only [Bool.false_eq_true, false_iff]
        intro h
        have := h i (Nat.le_refl _) h1 z
        omega
      · refine ⟨b, step _ (Ev.iteF c hb), rest (fun _ _ => by omega)⟩
theorem rRight_ev (l : List S38) (hn : l.length ≤ 100000) : ∃ b, Ev (fun k => terrierref17_Right.f k l) b ∧ (b = true ↔ ∀ j, NoFall l j) := by
  obtain ⟨b, hb, hb2⟩ := rRight_loop l hn l.length 0 (by omega)
  exact ⟨b, hb, hb2.trans ⟨fun h j => h j (by omega), fun h j _ => h j⟩⟩
theorem spoil_eq (l : List S38) (hl : ∀ x ∈ l, EvOk x) (hn : l.length ≤ 100000) : terrierlaw17_spoil.f l = some () := by
  unfold terrierlaw17_spoil.f
  refine if_pos ?_
  simp only [spoilOk, Bool.and_eq_true, List.all_eq_true, decide_eq_true_eq]
  refine ⟨by omega, fun x hx => ?_⟩
  obtain ⟨⟨_, _, h1, _⟩, _, _, _, h2⟩ := hl x hx
  omega
theorem BatchSieves : terrierlaw17_BatchSieves.Pure := by
  intro key e st np nd pv l hw hl
  have okL := of_ok hl.1
  have hk : Bytes key := bytes_of_wf hw.1.1
  have he : Bytes e := bytes_of_wf hw.2.1.1
  have ly := hw.1.2.1
  have le := hw.2.1.2.1
  simp only at ly le
  suffices h : Ev (fun k => terrierlaw17_BatchSieves.f k key e st np nd pv l) true from h.rounds
  have jt : Ev (fun k => terrierlaw17_BatchSieves.j0 k l true key e st np nd pv) true := by
    refine Ev.step (fun k => by rw [terrierlaw17_BatchSieves.j0]) ?_
    exact Ev.iteT rfl (Ev.bind lives_ev (Ev.now _))
  obtain ⟨c, hc, hc2⟩ := few_ev l okL
  unfold terrierlaw17_BatchSieves.f
  refine Ev.bind lives_ev (Ev.iteT rfl (Ev.bind hc ?_))
  cases c
  · exact jt
  · have hn := hc2 rfl
    have so := sieve_ok key e np nd pv okL
    have sn := sieve_len key e np nd pv l
    obtain ⟨b1, s1, s2⟩ := refSame_ev (sieveE key e np nd pv l) (sieveE key e np nd pv l) so so (by omega)
    obtain ⟨b2, t1, t2⟩ := refSame_ev l l okL okL (by omega)
    obtain ⟨b3, u1, u2⟩ := Right_ev l (by omega)
    obtain ⟨b4, v1, v2⟩ := rRight_ev l (by omega)
    obtain rfl : b1 = true := s2.2 rfl
    obtain rfl : b2 = true := t2.2 rfl
    obtain rfl : b3 = b4 := Bool.eq_iff_iff.2 (u2.trans v2.symm)
    refine Ev.step (fun k => by rw [terrierlaw17_BatchSieves.j0]) ?_
    refine Ev.iteF (by decide) (Ev.bind (Twins_ev l okL (by omega)) (Ev.bind (Sieve_ev key e st np nd pv hk he l okL (by omega)) (Ev.bind (rSieve_ev key e st np nd pv hk he (by omega) (by omega) l okL (by omega)) (Ev.bind s1 ?_))))
    refine Ev.iteT rfl (Ev.bind0 (spoil_eq _ so (by omega)) (Ev.bind t1 (Ev.iteT rfl (Ev.bind u1 (Ev.bind v1 (Ev.eq (Ev.now _) ?_))))))
    simp
end Go.Proofs.Ytdakdlgkhnjhoaa.Pure
