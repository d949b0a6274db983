/- A part of the proof of the seat's rows, said of the kit's own model: what comes in holds what is told. Conditions: as each theorem says. -/
import Derived.Test.YthhhklmdceieaaaAbD
import Derived.ChangeArms
import Derived.DataReads
import Derived.SizedLaws
import Derived.WideShapes
namespace Go.Ab
open Go Go.RowKit
set_option linter.unusedVariables false
set_option linter.unusedSimpArgs false

/-- What memory holds when the call begins. -/
def memOf (W : World) : Imm := fun b o => W.cell? ⟨b, o, none⟩
theorem Inv.start (W : World) : Inv W.heap.size W (memOf W) ⟨fun _ => none, fun _ => none⟩ W :=
  ⟨Below.refl _ _, Nat.le_refl _, fun _ _ _ h => h, fun b cs h => (by cases h), fun h n k => (by cases k), fun b cs h n k => (by cases k), fun h h' n n' b k => (by cases k)⟩
theorem ACalls.start {P : Program} {f : FuncId} {args : List AV} (h : ACalls P f args ⟨fun _ => none, fun _ => none⟩ fun r _ => r = .v (.bool true)) {W : World} {vs : List Value} (hv : VT (memOf W) args vs) :
    Calls P f vs.toArray W fun e W' => e = .returned (.bool true) ∧ Below W.heap.size W W' :=
  (h.2 _ _ _ _ _ (Inv.start W) hv).mono fun e W' ⟨y, r, m', σ', h1, h2, h3, h4, h5⟩ => by
    subst h5
    cases h2
    exact ⟨h1, h4.base⟩

/-- Whatever reads at type t, no heavier than a row lets it be, holds what is told. -/
def Opens {α : Type} (P : Program) (t : TypeId) (enc : α → List AV) (ok : α → Prop) : Prop :=
  ∀ {H : Type} {en : TypeId × Value → H} {W : World} {base : Nat} {spare : Nat → Bool} {held : Bool} {fuel : Nat} {cs : List Value} {x : DataW H × List MemPlace},
    DataW.trod en P W base spare held fuel t cs = some x → (∀ n ∈ x.1.weights P t, n ≤ reachBytes) → ∃ y, VC (memOf W) (enc y) cs ∧ ok y
section
variable {P : Program} {t : TypeId}
theorem opens_int {k : IntKind} (ht : P.underlying t = some (.int k)) : Opens P t (fun n : Int => [.v (.int k n)]) (fun n => (Lit.int k n).wf = true) := by
  intro H en W base spare held fuel cs x h _
  obtain ⟨n, rfl, _, hw⟩ := DataW.trod_int ht h
  exact ⟨n, .cons (.v _) rfl .nil, hw⟩
theorem opens_bool (ht : P.underlying t = some .bool) : Opens P t (fun b : Bool => [.v (.bool b)]) (fun _ => True) := by
  intro H en W base spare held fuel cs x h _
  obtain ⟨b, rfl, _⟩ := DataW.trod_bool ht h
  exact ⟨b, .cons (.v _) rfl .nil, trivial⟩
def okSlice {α : Type} (ok : α → Prop) (B : Nat) (l : List α) : Prop := (∀ x ∈ l, ok x) ∧ l.length * B ≤ 140737488351232 ∧ l.length ≤ maxLen
theorem weightsAll_mem {H : Type} {e : TypeId} : ∀ {l : List (DataW H)} {i : Nat} {d : DataW H}, l[i]? = some d → ∀ n ∈ d.weights P e, n ∈ DataW.weightsAll P e l
  | [], _, _, h => by simp at h
  | d0 :: l, 0, d, h => by
    simp only [List.getElem?_cons_zero, Option.some.injEq] at h
    subst h
    intro n hn
    simp only [DataW.weightsAll, List.mem_append]
    exact Or.inl hn
  | d0 :: l, i + 1, d, h => by
    simp only [List.getElem?_cons_succ] at h
    intro n hn
    simp only [DataW.weightsAll, List.mem_append]
    exact Or.inr (weightsAll_mem h n hn)
theorem choose_list {α : Type} {p : Nat → α → Prop} : ∀ (n : Nat), (∀ i, i < n → ∃ y, p i y) → ∃ l : List α, l.length = n ∧ ∀ i y, l[i]? = some y → p i y
  | 0, _ => ⟨[], rfl, fun i y h => by simp at h⟩
  | n + 1, h => by
    obtain ⟨l, hl, hp⟩ := choose_list n (fun i hi => h i (by omega))
    obtain ⟨y, hy⟩ := h n (by omega)
    refine ⟨l ++ [y], by simp [hl], fun i z hz => ?_⟩
    rcases Nat.lt_or_ge i n with hi | hi
    · rw [List.getElem?_append_left (by omega)] at hz
      exact hp i z hz
    · rw [List.getElem?_append_right (by omega)] at hz
      have : i = n := by
        have := (List.getElem?_eq_some_iff.1 hz).1
        simp at this
        omega
      subst this
      simp [hl] at hz
      rw [← hz]; exact hy
theorem VC.rows {m : Imm} {b sz : Nat} {f : Nat → Nat → Option Value} : ∀ (es : List (List AV)) (o : Nat), (∀ e ∈ es, e.length = sz) → (∀ (i : Nat) e, es[i]? = some e → ∃ c, VC m e c ∧ ∀ j v, c[j]? = some v → m b (o + i * sz + j) = some v) → ∃ vs, VC m es.flatten vs ∧ Held m b o vs
  | [], o, _, _ => ⟨[], .nil, fun j v h => by simp at h⟩
  | e :: es, o, hs, h => by
    obtain ⟨c, h1, h2⟩ := h 0 e (by simp)
    obtain ⟨vs, h3, h4⟩ := VC.rows (f := f) es (o + sz) (fun x hx => hs x (by simp [hx])) (fun i x hx => by
      obtain ⟨c, k1, k2⟩ := h (i + 1) x (by simpa using hx)
      refine ⟨c, k1, fun j v hv => ?_⟩
      have := k2 j v hv
      rwa [show o + (i + 1) * sz + j = o + sz + i * sz + j by rw [Nat.add_mul]; omega] at this)
    refine ⟨c ++ vs, by simpa using h1.append h3, fun j v hv => ?_⟩
    have hl : c.length = sz := by rw [← h1.length]; exact hs e (by simp)
    rcases Nat.lt_or_ge j c.length with hj | hj
    · rw [List.getElem?_append_left hj] at hv
      have := h2 j v hv
      simpa using this
    · rw [List.getElem?_append_right hj] at hv
      have := h4 _ _ hv
      rwa [show o + sz + (j - c.length) = o + j by omega] at this
theorem opens_slice {α : Type} {e : TypeId} {enc : α → List AV} {ok : α → Prop} {B sz : Nat} (ht : P.underlying t = some (.slice e)) (he : Opens P e enc ok) (hc : P.cellsOf e = sz) (hn : ∀ x, (enc x).length = sz) (hpos : 0 < sz) (hB : P.bytesOf e = B) : Opens P t (fun l : List α => [.row sz (l.map enc)]) (okSlice ok B) := by
  intro H en W base spare held fuel cs x h hw
  rcases DataW.trod_slice ht h with ⟨rfl, rfl⟩ | ⟨a, len, cap, elems, rest, n, _, rfl, rfl, hb, hl, hm, hlen, hel, _, _⟩
  · exact ⟨[], .cons .rowNil rfl .nil, fun x hx => absurd hx (by simp), by simp, by simp⟩
  · have hw0 : (elems.length + rest.length) * P.bytesOf e ≤ reachBytes := by
      have := hw ((elems.length + rest.length) * P.bytesOf e) (by simp [DataW.weights, ht])
      exact this
    have each : ∀ i, i < len → ∃ y, (∃ c, W.cells? base (a.add (i * P.cellsOf e)) (P.cellsOf e) = some c ∧ VC (memOf W) (enc y) c) ∧ ok y := by
      intro i hi
      have hi' := hel i hi
      have hlt : i < elems.length := by omega
      rw [List.getElem?_eq_getElem hlt] at hi'
      obtain ⟨c, h1, h2⟩ := Option.bind_eq_some_iff.1 hi'
      obtain ⟨y, hK, hok⟩ := he h2 (fun m hm' => hw m (by
        simp only [DataW.weights, ht, List.mem_cons, List.mem_append]
        exact Or.inr (Or.inl (weightsAll_mem (i := i) (by simp [hlt]) m hm'))))
      exact ⟨y, ⟨c, h1, hK⟩, hok⟩
    obtain ⟨l, hll, hp⟩ := choose_list len each
    have hmx : maxLen = 9223372036854775807 := by decide
    have hok : okSlice ok B l := by
      refine ⟨fun y hy => ?_, ?_, by omega⟩
      · obtain ⟨i, hi⟩ := List.getElem?_of_mem hy
        exact (hp i y hi).2
      · have : reachBytes = 140737488351232 := by decide
        rw [this, hB] at hw0
        exact Nat.le_trans (Nat.mul_le_mul_right _ (by omega)) hw0
    refine ⟨l, ?_, hok⟩
    by_cases hl0 : l.length = 0
    · obtain rfl : l = [] := List.eq_nil_of_length_eq_zero hl0
      obtain rfl : len = 0 := by simpa using hll.symm
      exact .cons .rowNil rfl .nil
    · have cell : ∀ i y, l[i]? = some y → ∃ c, VC (memOf W) (enc y) c ∧ c.length = sz ∧ ∀ j v, c[j]? = some v → W.cell? (a.add (i * sz + j)) = some v := fun i y hi => by
        obtain ⟨⟨c, h1, h2⟩, _⟩ := hp i y hi
        obtain ⟨_, h3, h4⟩ := World.cells?_some h1
        have hlen : c.length = sz := by rw [← h2.length]; exact hn _
        refine ⟨c, h2, hlen, fun j v hv => ?_⟩
        have hlt : j < c.length := (List.getElem?_eq_some_iff.1 hv).1
        have h5 := h4 j (by omega)
        have ha : (a.add (i * P.cellsOf e)).add j = a.add (i * sz + j) := by
          rw [hc]
          unfold Addr.add
          by_cases z1 : i * sz = 0 <;> by_cases z2 : j = 0 <;> simp [z1, z2, Nat.add_assoc]
        rw [ha] at h5
        rw [h5, hv]
      obtain ⟨ab, ao, asp⟩ := a
      have hsp : asp = none := by
        obtain ⟨c, _, h2, h3⟩ := cell 0 (l[0]'(by omega)) (by simp)
        have := h3 0 (c[0]'(by omega)) (by simp)
        cases asp with
        | none => rfl
        | some q => simp [Addr.add, World.cell?] at this; split at this <;> simp at this
      subst hsp
      obtain ⟨vs, h1, h2⟩ := VC.rows (m := memOf W) (b := ab) (sz := sz) (f := fun _ _ => none) (l.map enc) ao (fun e he => by
        obtain ⟨y, _, rfl⟩ := List.mem_map.1 he
        exact hn y) (fun i e he => by
        rw [List.getElem?_map, Option.map_eq_some_iff] at he
        obtain ⟨y, hy, rfl⟩ := he
        obtain ⟨c, k1, _, k2⟩ := cell i y hy
        refine ⟨c, k1, fun j v hv => ?_⟩
        have := k2 j v hv
        rw [add_at] at this
        unfold memOf
        rwa [Nat.add_assoc])
      have := V.row (m := memOf W) (es := l.map enc) (cap := cap) (sz := sz) (fun e he => by
        obtain ⟨y, _, rfl⟩ := List.mem_map.1 he
        exact hn y) h1 h2 (by simp; omega)
      rw [List.length_map, hll] at this
      exact .cons this rfl .nil
/-! ### a struct: its fields one behind the other -/
theorem piece {m : Imm} {cs : List Value} {o s o' : Nat} {xs ys : List AV} (ho : o' = o + s) (ha : VC m xs ((cs.drop o).take s)) (hb : VC m ys (cs.drop o')) : VC m (xs ++ ys) (cs.drop o) := by
  subst ho
  have := ha.append hb
  rwa [← List.drop_drop, List.take_append_drop] at this
theorem last_piece {m : Imm} {cs : List Value} {o s : Nat} {xs : List AV} (hl : cs.length = o + s) (ha : VC m xs ((cs.drop o).take s)) : VC m xs (cs.drop o) := by
  rwa [List.take_of_length_le (by simp; omega)] at ha
theorem field_at {H : Type} {en : TypeId × Value → H} {W : World} {base : Nat} {spare : Nat → Bool} {held : Bool} {α : Type} {enc : α → List AV} {ok : α → Prop} {fs : Array Field} {f : Field} {n i o s : Nat} {cs : List Value} {xs : List (DataW H × List MemPlace)}
    (ht : P.underlying t = some (.struct fs)) (hf : fs[i]? = some f) (he : Opens P f.type enc ok) (hs : P.cellsOf f.type = s) (ho : f.offset = o) (hlen : xs.length = fs.size)
    (h : ∀ (i : Nat) (f : Field), fs[i]? = some f → DataW.trod en P W base spare held n f.type ((cs.drop f.offset).take (P.cellsOf f.type)) = xs[i]?)
    (hw : ∀ n ∈ (DataW.agg (xs.map (·.1))).weights P t, n ≤ reachBytes) : ∃ y, VC (memOf W) (enc y) ((cs.drop o).take s) ∧ ok y := by
  subst hs; subst ho
  have hi : i < fs.size := (Array.getElem?_eq_some_iff.1 hf).1
  have h1 := h i f hf
  have hx : xs[i]? = some (xs[i]'(by omega)) := List.getElem?_eq_getElem (by omega)
  rw [hx] at h1
  refine he h1 (fun m hm => hw m ?_)
  simp only [DataW.weights, ht]
  refine DataW.weights_mem_each (j := i) (t := f.type) (d := (xs[i]'(by omega)).1) ?_ ?_ m hm
  · simp [hf]
  · simp [hx]
end
end Go.Ab
