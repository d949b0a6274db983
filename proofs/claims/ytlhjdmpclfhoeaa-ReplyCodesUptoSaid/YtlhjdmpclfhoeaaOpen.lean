/- What a law's arguments read as, where they are of the bulk that the second form asks for: a value that reads at a type holds a kind's value, with the bounds that its type, its weight and its bulk give. -/
import Derived.ChangeArms
import Derived.DataReads
import Derived.SizedLaws
import Derived.WideShapes
import Derived.Test.YtlhjdmpclfhoeaaVMore
import Derived.Test.YtlhjdmpclfhoeaaRows
namespace Go.Proofs.Ytlhjdmpclfhoeaa.Open
open Go.RowKit Go.Proofs.YtlhjdmpclfhoeaaW.PrintWords Go.Proofs.YtlhjdmpclfhoeaaW.PrintLast Go.Proofs.YtlhjdmpclfhoeaaW.PrintMore
def Opens {α : Type} (P : Program) (t : TypeId) (d : Kd α) (ok : α → Prop) : Prop :=
  ∀ {H : Type} {enc : TypeId × Value → H} {W : World} {base : Nat} {spare : Nat → Bool} {held : Bool} {fuel : Nat} {cs : List Value} {x : DataW H × List MemPlace},
    DataW.trod enc P W base spare held fuel t cs = some x → (∀ n ∈ x.1.weights P t, n ≤ reachBytes) → Rows.uptoBulk x.1 ≤ 1048576 → ∃ y, d.K W y cs ∧ ok y
section
variable {P : Program} {t : TypeId}
theorem opens_int {k : IntKind} (ht : P.underlying t = some (.int k)) : Opens P t (Kd.int k) (fun n => (Lit.int k n).wf = true) := by
  intro H enc W base spare held fuel cs x h _ _
  obtain ⟨n, rfl, _, hw⟩ := DataW.trod_int ht h
  exact ⟨n, rfl, hw⟩
theorem opens_bool (ht : P.underlying t = some .bool) : Opens P t Kd.bool (fun _ => True) := by
  intro H enc W base spare held fuel cs x h _ _
  obtain ⟨b, rfl, _⟩ := DataW.trod_bool ht h
  exact ⟨b, rfl, trivial⟩
def okSlice {α : Type} (ok : α → Prop) (B : Nat) (l : List α) : Prop := (∀ x ∈ l, ok x) ∧ l.length * B ≤ 140737488351232 ∧ l.length ≤ maxLen ∧ l.length ≤ 1048576
def okSliceM {α : Type} (mu : Nat) (ok : α → Prop) (B : Nat) (l : List α) : Prop := (∀ x ∈ l, ok x) ∧ l.length * B ≤ 140737488351232 ∧ l.length ≤ maxLen ∧ l.length * mu ≤ 1048576
theorem sum_ge {H : Type} (mu : Nat) : ∀ {l : List (DataW H)}, (∀ z ∈ l, mu ≤ Rows.uptoBulk z) → l.length * mu ≤ Rows.uptoBulkAll l
  | [], _ => by simp
  | z :: l, h => by
    have h1 := h z (by simp)
    have h2 := sum_ge mu (l := l) (fun y hy => h y (by simp [hy]))
    simp only [Rows.uptoBulkAll, List.length_cons, Nat.succ_mul]
    omega
theorem reach_eq : reachBytes = 140737488351232 := by decide
theorem one_le {H : Type} (d : DataW H) : 1 ≤ Rows.uptoBulk d := by
  cases d with
  | lit l => cases l <;> simp [Rows.uptoBulk]
  | nil => simp [Rows.uptoBulk]
  | ptr d => simp [Rows.uptoBulk]
  | slice elems spare => simp [Rows.uptoBulk]
  | agg parts => simp [Rows.uptoBulk]
  | iface t d => simp [Rows.uptoBulk]
  | map entries => simp [Rows.uptoBulk]
  | held h => simp [Rows.uptoBulk]
theorem part_le {H : Type} {d : DataW H} {l : List (DataW H)} (h : d ∈ l) : Rows.uptoBulk d ≤ Rows.uptoBulkAll l := by
  induction l with
  | nil => cases h
  | cons x r ih =>
    simp only [Rows.uptoBulkAll]
    cases List.mem_cons.1 h with
    | inl e => subst e; omega
    | inr e => have := ih e; omega
theorem length_le {H : Type} (l : List (DataW H)) : l.length ≤ Rows.uptoBulkAll l := by
  induction l with
  | nil => simp [Rows.uptoBulkAll]
  | cons x r ih => have := one_le x; simp only [Rows.uptoBulkAll, List.length_cons]; omega
theorem arg_le {H : Type} {d : DataW H} {l : List (DataW H)} (hk : Rows.uptoSmall H l = true) (h : d ∈ l) : Rows.uptoBulk d ≤ 1048576 := by
  have h1 : Rows.uptoBulkAll l ≤ 1048576 := of_decide_eq_true hk
  exact Nat.le_trans (part_le h) h1
theorem weightsAll_mem {H : Type} {e : TypeId} : ∀ {l : List (DataW H)} {i : Nat} {d : DataW H}, l[i]? = some d → ∀ n ∈ d.weights P e, n ∈ DataW.weightsAll P e l
  | [], _, _, h => by simp at h
  | d0 :: l, 0, d, h => by
    simp only [List.getElem?_cons_zero, Option.some.injEq] at h
    subst h
    intro n hn
    simp only [DataW.weightsAll, List.mem_append]
    exact Or.inl hn
  | d0 :: l, i + 1, d, h => by
    simp only [List.getElem?_cons_succ] at h
    intro n hn
    simp only [DataW.weightsAll, List.mem_append]
    exact Or.inr (weightsAll_mem h n hn)
theorem choose_list {α : Type} {p : Nat → α → Prop} : ∀ (n : Nat), (∀ i, i < n → ∃ y, p i y) → ∃ l : List α, l.length = n ∧ ∀ i y, l[i]? = some y → p i y
  | 0, _ => ⟨[], rfl, fun i y h => by simp at h⟩
  | n + 1, h => by
    obtain ⟨l, hl, hp⟩ := choose_list n (fun i hi => h i (by omega))
    obtain ⟨y, hy⟩ := h n (by omega)
    refine ⟨l ++ [y], by simp [hl], fun i z hz => ?_⟩
    rcases Nat.lt_or_ge i n with hi | hi
    · rw [List.getElem?_append_left (by omega)] at hz
      exact hp i z hz
    · rw [List.getElem?_append_right (by omega)] at hz
      have : i = n := by
        have := (List.getElem?_eq_some_iff.1 hz).1
        simp at this
        omega
      subst this
      simp [hl] at hz
      rw [← hz]; exact hy
theorem opens_slice_m {α : Type} {e : TypeId} {d : Kd α} {ok : α → Prop} {B : Nat} (mu : Nat) (hmu : ∀ {H : Type} {enc : TypeId × Value → H} {W : World} {base : Nat} {spare : Nat → Bool} {held : Bool} {fuel : Nat} {cs : List Value} {x : DataW H × List MemPlace}, DataW.trod enc P W base spare held fuel e cs = some x → mu ≤ Rows.uptoBulk x.1) (ht : P.underlying t = some (.slice e)) (he : Opens P e d ok) (hc : P.cellsOf e = d.sz) (hB : P.bytesOf e = B) : Opens P t (Kd.slice e d) (okSliceM mu ok B) := by
  intro H enc W base spare held fuel cs x h hw hu
  rcases DataW.trod_slice ht h with ⟨rfl, rfl⟩ | ⟨a, len, cap, elems, rest, n, _, rfl, rfl, hb, hl, hm, hlen, hel, _, _⟩
  · have hnil : okSliceM mu ok B ([] : List α) := ⟨fun x hx => absurd hx (by simp), by simp, by simp, by simp⟩
    exact ⟨[], ⟨none, 0, rfl, Nat.le_refl _, Kd.C_nil _ _⟩, hnil⟩
  · have hu0 : Rows.uptoBulkAll (elems.map (·.1)) ≤ 1048576 := by
      have h0 : Rows.uptoBulk (DataW.slice (elems.map (·.1)) (rest.map (·.1))) ≤ 1048576 := hu
      simp only [Rows.uptoBulk] at h0
      omega
    have hul : elems.length * mu ≤ Rows.uptoBulkAll (elems.map (·.1)) := by
      have h1 : ∀ z ∈ elems.map (·.1), mu ≤ Rows.uptoBulk z := by
        intro z hz
        obtain ⟨q, hq, rfl⟩ := List.mem_map.1 hz
        obtain ⟨i, hi, rfl⟩ := List.getElem_of_mem hq
        have h2 := hel i (by omega)
        rw [List.getElem?_eq_getElem hi] at h2
        obtain ⟨c, _, h3⟩ := Option.bind_eq_some_iff.1 h2
        exact hmu h3
      have h4 := sum_ge mu h1
      rwa [List.length_map] at h4
    have hw0 : (elems.length + rest.length) * P.bytesOf e ≤ reachBytes := by
      have := hw ((elems.length + rest.length) * P.bytesOf e) (by simp [DataW.weights, ht])
      exact this
    have each : ∀ i, i < len → ∃ y, (∃ c, W.cells? base (a.add (i * P.cellsOf e)) (P.cellsOf e) = some c ∧ d.K W y c) ∧ ok y := by
      intro i hi
      have hi' := hel i hi
      have hlt : i < elems.length := by omega
      rw [List.getElem?_eq_getElem hlt] at hi'
      obtain ⟨c, h1, h2⟩ := Option.bind_eq_some_iff.1 hi'
      obtain ⟨y, hK, hok⟩ := he h2 (fun m hm' => hw m (by
        simp only [DataW.weights, ht, List.mem_cons, List.mem_append]
        exact Or.inr (Or.inl (weightsAll_mem (i := i) (by simp [hlt]) m hm')))) (Nat.le_trans (part_le (List.mem_map_of_mem (List.getElem_mem hlt))) hu0)
      exact ⟨y, ⟨c, h1, hK⟩, hok⟩
    obtain ⟨l, hll, hp⟩ := choose_list len each
    have hmx : maxLen = 9223372036854775807 := by decide
    refine ⟨l, ⟨some a, cap, by rw [hll], by omega, hll ▸ rfl, by omega, fun hn => ⟨a, rfl, fun j p hj => ?_⟩⟩, fun y hy => ?_, ?_, by omega, ?_⟩
    · obtain ⟨⟨c, h1, h2⟩, _⟩ := hp j p hj
      obtain ⟨_, h3, h4⟩ := World.cells?_some h1
      refine ⟨c, by rw [h3, hc], h2, fun i u hu => ?_⟩
      have hlt : i < c.length := (List.getElem?_eq_some_iff.1 hu).1
      have h5 := h4 i (by omega)
      have ha : (a.add (j * P.cellsOf e)).add i = a.add (j * d.sz + i) := by
        rw [hc]
        unfold Addr.add
        by_cases z1 : j * d.sz = 0 <;> by_cases z2 : i = 0 <;> simp [z1, z2, Nat.add_assoc]
      rw [ha] at h5
      rw [h5, hu]
    · obtain ⟨i, hi⟩ := List.getElem?_of_mem hy
      exact (hp i y hi).2
    · rw [reach_eq, hB] at hw0
      exact Nat.le_trans (Nat.mul_le_mul_right _ (by omega)) hw0
    · rw [hll]
      have : len * mu ≤ elems.length * mu := Nat.mul_le_mul_right _ (by omega)
      omega
theorem opens_slice {α : Type} {e : TypeId} {d : Kd α} {ok : α → Prop} {B : Nat} (ht : P.underlying t = some (.slice e)) (he : Opens P e d ok) (hc : P.cellsOf e = d.sz) (hB : P.bytesOf e = B) : Opens P t (Kd.slice e d) (okSlice ok B) := by
  intro H enc W base spare held fuel cs x h hw hu
  obtain ⟨y, h1, h2, h3, h4, h5⟩ := opens_slice_m 1 (fun {H enc W base spare held fuel cs x} _ => one_le x.1) ht he hc hB h hw hu
  exact ⟨y, h1, h2, h3, h4, by omega⟩
theorem opens_slice_st {α : Type} {e : TypeId} {fs : Array Field} {d : Kd α} {ok : α → Prop} {B : Nat} (ht : P.underlying t = some (.slice e)) (hs : P.underlying e = some (.struct fs)) (hn : 0 < fs.size) (he : Opens P e d ok) (hc : P.cellsOf e = d.sz) (hB : P.bytesOf e = B) : Opens P t (Kd.slice e d) (okSliceM 2 ok B) :=
  opens_slice_m 2 (fun {H enc W base spare held fuel cs x} h => by
    obtain ⟨xs, n, _, rfl, _, hlen, _⟩ := DataW.trod_struct hs h
    have h1 := length_le (xs.map (·.1))
    rw [List.length_map] at h1
    show 2 ≤ Rows.uptoBulk (DataW.agg (xs.map (·.1)))
    simp only [Rows.uptoBulk]
    omega) ht he hc hB
theorem pair_piece {α β : Type} {a : Kd α} {b : Kd β} {w : World} {x : α} {y : β} {cs : List Value} {o s o' : Nat} (ho : o' = o + s) (ha : a.K w x ((cs.drop o).take s)) (hb : b.K w y (cs.drop o')) : (Kd.pair a b).K w (x, y) (cs.drop o) := by
  subst ho
  exact ⟨_, _, by rw [← List.drop_drop]; exact (List.take_append_drop s (cs.drop o)).symm, ha, hb⟩
theorem last_piece {α : Type} {a : Kd α} {w : World} {x : α} {cs : List Value} {o s : Nat} (hl : cs.length = o + s) (ha : a.K w x ((cs.drop o).take s)) : a.K w x (cs.drop o) := by
  rwa [List.take_of_length_le (by simp; omega)] at ha
theorem field_at {H : Type} {enc : TypeId × Value → H} {W : World} {base : Nat} {spare : Nat → Bool} {held : Bool} {α : Type} {d : Kd α} {ok : α → Prop} {fs : Array Field} {f : Field} {n i o s : Nat} {cs : List Value} {xs : List (DataW H × List MemPlace)}
    (ht : P.underlying t = some (.struct fs)) (hf : fs[i]? = some f) (he : Opens P f.type d ok) (hs : P.cellsOf f.type = s) (ho : f.offset = o) (hlen : xs.length = fs.size)
    (h : ∀ (i : Nat) (f : Field), fs[i]? = some f → DataW.trod enc P W base spare held n f.type ((cs.drop f.offset).take (P.cellsOf f.type)) = xs[i]?)
    (hw : ∀ n ∈ (DataW.agg (xs.map (·.1))).weights P t, n ≤ reachBytes) (hu : Rows.uptoBulk (DataW.agg (xs.map (·.1))) ≤ 1048576) : ∃ y, d.K W y ((cs.drop o).take s) ∧ ok y := by
  subst hs; subst ho
  have hi : i < fs.size := (Array.getElem?_eq_some_iff.1 hf).1
  have h1 := h i f hf
  have hx : xs[i]? = some (xs[i]'(by omega)) := List.getElem?_eq_getElem (by omega)
  rw [hx] at h1
  have hu0 : Rows.uptoBulkAll (xs.map (·.1)) ≤ 1048576 := by
    simp only [Rows.uptoBulk] at hu
    omega
  refine he h1 (fun m hm => hw m ?_) (Nat.le_trans (part_le (List.mem_map_of_mem (List.getElem_mem _))) hu0)
  simp only [DataW.weights, ht]
  refine DataW.weights_mem_each (j := i) (t := f.type) (d := (xs[i]'(by omega)).1) ?_ ?_ m hm
  · simp [hf]
  · simp [hx]
end
end Go.Proofs.Ytlhjdmpclfhoeaa.Open
