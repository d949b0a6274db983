/- To sieve what was sieved changes nothing, and to sieve the parts is to sieve the whole: the plain statement that is left of the law BatchTwice, for any watch, any row of events and any length. -/
import Derived.Test.YtdakdlgkhnjhoaaOctBatchTwice
import Derived.Test.YtdakdlgkhnjhoaaBatBatchTwice
import Derived.Test.YtdakdlgkhnjhoaaPSx26
import Derived.Test.YtdakdlgkhnjhoaaPSx39
namespace Go.Proofs.Ytdakdlgkhnjhoaa.Pure
open Go.RowKit Go.Proofs.YtdakdlgkhnjhoaaW.PrintWords Go.Proofs.YtdakdlgkhnjhoaaW.PrintLast Go.Proofs.YtdakdlgkhnjhoaaW.PrintMore Go.Proofs.Ytdakdlgkhnjhoaa.PS Go.Proofs.Ytdakdlgkhnjhoaa.Base Go.Proofs.Ytdakdlgkhnjhoaa.Oct Go.Proofs.Ytdakdlgkhnjhoaa.Bat
theorem of_ok {l : List S38} (h : ∀ x ∈ l, ok38 x) : ∀ x ∈ l, EvOk x := fun x hx => by
  obtain ⟨_, ⟨h1, h2, _⟩, _, h3, h4, _⟩ := h x hx
  have a := h1.2.1
  have b := h2.2.1
  have c := h3.2.1
  have d := h4.2.1
  exact ⟨⟨bytes_of_wf h1.1, bytes_of_wf h2.1, by omega, by omega⟩, bytes_of_wf h3.1, bytes_of_wf h4.1, by omega, by omega⟩

theorem rdL_at {ps : List (List S38)} {i : Nat} (h : i < ps.length) : rd_L6 ps (i : Int) = ps[i] := by
  simp [rd_L6, List.getD_eq_getElem?_getD, List.getElem?_eq_getElem h]
section
variable (key e : List Int) (st : Int) (np nd pv : Bool) (hk : Bytes key) (he : Bytes e)
/-- Is an event wanted? -/
def want (x : S38) : Bool := inB x.f1.f0 key e && !(decide (x.f0 = 1) && np) && !(decide (x.f0 = 2) && nd)
/-- The event as it is told. -/
def show_ (x : S38) : S38 := if pv = true then x else ⟨x.f0, x.f1, false, z36⟩
def sieveE (l : List S38) : List S38 := (l.filter (want key e np nd)).map (show_ pv)
theorem show_ok {x : S38} (hx : EvOk x) : EvOk (show_ pv x) := by
  unfold show_
  split
  · exact hx
  · exact ⟨hx.1, bytes_nil, bytes_nil, by simp [z36], by simp [z36]⟩
theorem show_twice (x : S38) : show_ pv (show_ pv x) = show_ pv x := by
  unfold show_
  split <;> rfl
theorem want_show (x : S38) : want key e np nd (show_ pv x) = want key e np nd x := by
  unfold want show_
  split <;> rfl
theorem sieve_twice (l : List S38) : sieveE key e np nd pv (sieveE key e np nd pv l) = sieveE key e np nd pv l := by
  unfold sieveE
  have h1 : ((l.filter (want key e np nd)).map (show_ pv)).filter (want key e np nd) = (l.filter (want key e np nd)).map (show_ pv) := by
    apply List.filter_eq_self.2
    intro y hy
    obtain ⟨x, hx, rfl⟩ := List.mem_map.1 hy
    rw [want_show]
    exact (List.mem_filter.1 hx).2
  rw [h1, List.map_map]
  apply List.map_congr_left
  intro x _
  exact show_twice pv x
theorem sieve_append (l m : List S38) : sieveE key e np nd pv (l ++ m) = sieveE key e np nd pv l ++ sieveE key e np nd pv m := by simp [sieveE]
theorem sieve_ok {l : List S38} (hl : ∀ x ∈ l, EvOk x) : ∀ x ∈ sieveE key e np nd pv l, EvOk x := by
  intro y hy
  obtain ⟨x, hx, rfl⟩ := List.mem_map.1 hy
  exact show_ok pv (hl x (List.mem_filter.1 hx).1)
theorem sieve_len (l : List S38) : (sieveE key e np nd pv l).length ≤ l.length := by
  simp only [sieveE, List.length_map]
  exact List.length_filter_le _ _
include hk he
theorem Sieve_loop (l : List S38) (hl : ∀ x ∈ l, EvOk x) (hn : l.length ≤ 100000) : ∀ (d i : Nat) (acc : List S38), i + d = l.length → acc.length ≤ i →
    Ev (fun k => batch_Sieve.l0 k acc l (l.length : Int) i key e st np nd pv) (acc ++ sieveE key e np nd pv (l.drop i))
  | 0, i, acc, hi, ha => by
    refine Ev.step (fun k => by rw [batch_Sieve.l0]) (Ev.iteF (by omega) ?_)
    rw [List.drop_of_length_le (by omega)]
    simpa [sieveE] using Ev.now acc
  | d + 1, i, acc, hi, ha => by
    have h1 : i < l.length := by omega
    have hx := at_ok hl h1
    have i0 : (i : Int) < l.length := by omega
    have i1 : (0 : Int) ≤ i := by omega
    have hd : l.drop i = [l[i]] ++ l.drop (i + 1) := by rw [List.drop_eq_getElem_cons h1]; rfl
    have hinc : wrap64 ((i : Int) + 1) = ((i + 1 : Nat) : Int) := wrapInc (by omega)
    have skip_ := Sieve_loop l hl hn d (i + 1) acc (by omega) (by omega)
    have take_ := Sieve_loop l hl hn d (i + 1) (acc ++ [show_ pv l[i]]) (by omega) (by simp; omega)
    rw [hd, sieve_append]
    generalize hX : l[i] = x at *
    have j1 : ∀ b : Bool, Ev (fun k => batch_Sieve.j1 k acc l (l.length : Int) i b key e st np nd pv x.f0 x.f1.f0 x.f1.f1 x.f1.f2 x.f1.f3 x.f1.f4 x.f1.f5 x.f2 x.f3.f0 x.f3.f1 x.f3.f2 x.f3.f3 x.f3.f4 x.f3.f5)
        (acc ++ ((if b = true then [] else [show_ pv x]) ++ sieveE key e np nd pv (l.drop (i + 1)))) := by
      intro b
      refine Ev.step (fun k => by rw [batch_Sieve.j1]) ?_
      cases b
      · refine Ev.iteF (by simp) ?_
        rw [hinc]
        cases pv
        · refine Ev.iteF (by simp) (Ev.bind0 (twin_eq (x := (⟨x.f0, x.f1, false, z36⟩ : S38)) ⟨hx.1, bytes_nil, bytes_nil, by simp [z36], by simp [z36]⟩) (Ev.iteT (by omega) ?_))
          simpa [show_, z36] using take_
        · refine Ev.iteT rfl (Ev.bind0 (twin_eq hx) (Ev.iteT (by omega) ?_))
          simpa [show_] using take_
      · refine Ev.iteT rfl ?_
        rw [hinc]
        simpa using skip_
    refine Ev.step (fun k => by rw [batch_Sieve.l0]) (Ev.iteT i0 (Ev.iteT i1 (Ev.iteT i0 ?_)))
    rw [rd_at h1, hX]
    refine Ev.bind (In_ev x.f1.f0 key e hx.1.1 hk he) ?_
    have fin : ∀ b : Bool, b = (!want key e np nd x) → (if b = true then [] else [show_ pv x]) = sieveE key e np nd pv [x] := by
      intro b hb
      subst hb
      unfold sieveE
      cases h : want key e np nd x <;> simp [h]
    cases hin : inB x.f1.f0 key e
    · refine Ev.iteF (by simp) ?_
      rw [← fin true (by simp [want, hin])]
      exact j1 true
    · refine Ev.iteT rfl ?_
      by_cases k1 : x.f0 = 1
      · refine Ev.iteT k1 ?_
        cases np
        · refine Ev.iteF (by simp) (Ev.iteF (by omega) ?_)
          rw [← fin false (by simp [want, hin, k1])]
          exact j1 false
        · refine Ev.iteT rfl ?_
          rw [← fin true (by simp [want, hin, k1])]
          exact j1 true
      · refine Ev.iteF k1 ?_
        by_cases k2 : x.f0 = 2
        · refine Ev.iteT k2 ?_
          rw [← fin nd (by simp [want, hin, k2])]
          exact j1 nd
        · refine Ev.iteF k2 ?_
          rw [← fin false (by simp [want, hin, k1, k2])]
          exact j1 false
theorem Sieve_ev (l : List S38) (hl : ∀ x ∈ l, EvOk x) (hn : l.length ≤ 100000) : Ev (fun k => batch_Sieve.f k key e st np nd pv l) (sieveE key e np nd pv l) := by
  have := Sieve_loop key e st np nd pv hk he l hl hn l.length 0 [] (by omega) (by simp)
  simpa [batch_Sieve.f] using this
theorem parts_loop (l : List S38) (hl : ∀ x ∈ l, EvOk x) (hn : l.length ≤ 80) (ps : List (List S38)) (hps : ps.flatten = l) (hcnt : ps.length ≤ 80) : ∀ (d i : Nat), i + d = ps.length →
    Ev (fun k => terrierlaw17_BatchTwice.l0 k (sieveE key e np nd pv l) (sieveE key e np nd pv (ps.take i).flatten) ps (ps.length : Int) i key e st np nd pv) true
  | 0, i, hi => by
    have hs := sieve_ok key e np nd pv hl
    have hs2 := sieve_len key e np nd pv l
    refine Ev.step (fun k => by rw [terrierlaw17_BatchTwice.l0]) (Ev.iteF (by omega) ?_)
    rw [List.take_of_length_le (by omega), hps]
    have h1 := Sieve_ev key e st np nd pv hk he _ hs (by omega)
    rw [sieve_twice] at h1
    obtain ⟨b, hb, hb2⟩ := Same_ev _ _ hs hs (by omega)
    obtain rfl := hb2.2 rfl
    exact Ev.bind h1 (Ev.bind hb (Ev.iteT rfl (Ev.bind hb (Ev.now _))))
  | d + 1, i, hi => by
    have h1 : i < ps.length := by omega
    have e1 : ps.flatten = (ps.take i).flatten ++ (ps[i] ++ (ps.drop (i + 1)).flatten) := by
      conv => lhs; rw [← List.take_append_drop i ps, List.flatten_append, List.drop_eq_getElem_cons h1, List.flatten_cons]
    have hlen : (ps.take i).flatten.length + ps[i].length ≤ 80 := by
      have := congrArg List.length e1
      rw [hps] at this
      simp only [List.length_append] at this
      omega
    have hsub : ∀ x ∈ ps[i], EvOk x := fun x hx => hl x (by rw [← hps]; exact List.mem_flatten.2 ⟨_, List.getElem_mem h1, hx⟩)
    have hs1 := sieve_len key e np nd pv (ps.take i).flatten
    have hs2 := sieve_len key e np nd pv ps[i]
    refine Ev.step (fun k => by rw [terrierlaw17_BatchTwice.l0]) (Ev.iteT (by omega) (Ev.iteT (by omega) (Ev.iteT (by omega) ?_)))
    rw [rdL_at h1]
    refine Ev.bind (Sieve_ev key e st np nd pv hk he ps[i] hsub (by omega)) (Ev.iteT (by omega) ?_)
    have e2 : (ps.take (i + 1)).flatten = (ps.take i).flatten ++ ps[i] := by rw [List.take_succ_eq_append_getElem h1, List.flatten_append]; simp
    rw [wrapInc (by omega), ← sieve_append, ← e2]
    exact parts_loop l hl hn ps hps hcnt d (i + 1) (by omega)
end
theorem BatchTwice : terrierlaw17_BatchTwice.Pure := by
  intro key e st np nd pv l most hw hl0 _
  have hk : Bytes key := bytes_of_wf hw.1.1
  have he : Bytes e := bytes_of_wf hw.2.1.1
  have hl := of_ok hl0.1
  have hl2 := hl0.2.1
  have hthen : ∀ b : Bool, b = true → Ev (fun q => terrierlaw17_BatchTwice.j0 q l most b key e st np nd pv) true := fun b hb => by
    subst hb
    exact Ev.step (fun q => by rw [terrierlaw17_BatchTwice.j0]) (Ev.iteT rfl (Ev.bind lives_ev (Ev.now _)))
  refine Ev.rounds ?_
  unfold terrierlaw17_BatchTwice.f
  obtain ⟨f1, e1, hf⟩ := few_ev l hl
  refine Ev.bind lives_ev (Ev.iteT rfl (Ev.bind e1 ?_))
  cases f1
  · exact hthen _ rfl
  have hn := hf rfl
  obtain ⟨ps, h1, h2⟩ := Split_ev l most hl hn
  refine Ev.step (fun q => by rw [terrierlaw17_BatchTwice.j0]) (Ev.iteF (by simp) (Ev.bind (Sieve_ev key e st np nd pv hk he l hl (by omega)) (Ev.bind h1 ?_)))
  have := parts_loop key e st np nd pv hk he l hl hn ps h2.flat (by have := h2.count; omega) ps.length 0 (by omega)
  simpa [sieveE] using this
end Go.Proofs.Ytdakdlgkhnjhoaa.Pure
