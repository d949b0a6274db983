/- A part of the proof of the seat's rows, said of the kit's own model: values of a walk (rows, pieces, what is owned) and what memory holds of them. Conditions: as each theorem says. -/
import Derived.Below
import Derived.Orders
import Derived.Laws.Append
import Derived.Laws.CopyRow
import Derived.Laws.Tables
import Derived.Laws.Rows
namespace Go.Ab
open Go Go.RowKit
set_option linter.unusedVariables false

structure Hdr where
  blk : Option Nat
  off : Nat
  cap : Nat
  sz : Nat
  deriving DecidableEq

/-- A value as it is told: without the place where it lies, but for what is written to. -/
inductive AV where
  | v (x : Value)
  | row (sz : Nat) (es : List (List AV))
  | own (h : Hdr) (es : List (List AV))
  | el (cs : List AV)
  | agg (cs : List AV)
  | tup (cs : List AV)

/-- Cells that never change again. -/
abbrev Imm := Nat → Nat → Option Value
def Imm.le (m m' : Imm) : Prop := ∀ b o u, m b o = some u → m' b o = some u
theorem Imm.le_refl (m : Imm) : m.le m := fun _ _ _ h => h
theorem Imm.le_trans {m m' m'' : Imm} (h : m.le m') (k : m'.le m'') : m.le m'' := fun b o u x => k b o u (h b o u x)
def Held (m : Imm) (b o : Nat) (vs : List Value) : Prop := ∀ j v, vs[j]? = some v → m b (o + j) = some v
theorem Held.mono {m m' : Imm} (h : m.le m') {b o : Nat} {vs : List Value} (k : Held m b o vs) : Held m' b o vs := fun j v hv => h _ _ _ (k j v hv)

mutual
inductive V (m : Imm) : AV → Value → Prop
  | v (x : Value) : V m (.v x) x
  | rowNil {sz cap : Nat} {a : Option Addr} : V m (.row sz []) (.slice a 0 cap)
  | row {es : List (List AV)} {vs : List Value} {b o cap sz : Nat} : (∀ e ∈ es, e.length = sz) → VC m es.flatten vs → Held m b o vs → es.length ≤ cap → V m (.row sz es) (.slice (some ⟨b, o, none⟩) es.length cap)
  | ownNil {o c s : Nat} : V m (.own ⟨none, o, c, s⟩ []) (.slice none 0 0)
  | own {es : List (List AV)} {vs : List Value} {b o cap sz : Nat} : (∀ e ∈ es, e.length = sz) → VC m es.flatten vs → Held m b o vs → es.length ≤ cap → V m (.own ⟨some b, o, cap, sz⟩ es) (.slice (some ⟨b, o, none⟩) es.length cap)
  | el {cs : List AV} {vs : List Value} {b o : Nat} : VC m cs vs → Held m b o vs → V m (.el cs) (.pointer (some ⟨b, o, none⟩))
  | agg {cs : List AV} {vs : List Value} : VC m cs vs → V m (.agg cs) (.agg vs.toArray)
  | tup {cs : List AV} {vs : List Value} : VT m cs vs → V m (.tup cs) (.tuple vs.toArray)
inductive VC (m : Imm) : List AV → List Value → Prop
  | nil : VC m [] []
  | cons {x : AV} {y : Value} {xs : List AV} {ys : List Value} : V m x y → y.oneCell' = true → VC m xs ys → VC m (x :: xs) (y :: ys)
inductive VT (m : Imm) : List AV → List Value → Prop
  | nil : VT m [] []
  | cons {x : AV} {y : Value} {xs : List AV} {ys : List Value} : V m x y → VT m xs ys → VT m (x :: xs) (y :: ys)
end

mutual
theorem V.mono {m m' : Imm} (h : m.le m') {x : AV} {y : Value} : V m x y → V m' x y
  | .v x => .v x
  | .rowNil => .rowNil
  | .row a b c d => .row a (VC.mono h b) (c.mono h) d
  | .ownNil => .ownNil
  | .own a b c d => .own a (VC.mono h b) (c.mono h) d
  | .el a b => .el (VC.mono h a) (b.mono h)
  | .agg a => .agg (VC.mono h a)
  | .tup a => .tup (VT.mono h a)
theorem VC.mono {m m' : Imm} (h : m.le m') {x : List AV} {y : List Value} : VC m x y → VC m' x y
  | .nil => .nil
  | .cons a b c => .cons (V.mono h a) b (VC.mono h c)
theorem VT.mono {m m' : Imm} (h : m.le m') {x : List AV} {y : List Value} : VT m x y → VT m' x y
  | .nil => .nil
  | .cons a c => .cons (V.mono h a) (VT.mono h c)
end

theorem VC.length {m : Imm} : ∀ {xs : List AV} {ys : List Value}, VC m xs ys → xs.length = ys.length
  | _, _, .nil => rfl
  | _, _, .cons _ _ h => by simp [VC.length h]
theorem VT.length {m : Imm} : ∀ {xs : List AV} {ys : List Value}, VT m xs ys → xs.length = ys.length
  | _, _, .nil => rfl
  | _, _, .cons _ h => by simp [VT.length h]
theorem VC.drop {m : Imm} : ∀ (n : Nat) {xs : List AV} {ys : List Value}, VC m xs ys → VC m (xs.drop n) (ys.drop n)
  | 0, _, _, h => h
  | _ + 1, _, _, .nil => .nil
  | n + 1, _, _, .cons _ _ h => VC.drop n h
theorem VC.take {m : Imm} : ∀ (n : Nat) {xs : List AV} {ys : List Value}, VC m xs ys → VC m (xs.take n) (ys.take n)
  | 0, _, _, _ => .nil
  | _ + 1, _, _, .nil => .nil
  | n + 1, _, _, .cons a b h => .cons a b (VC.take n h)
theorem VC.append {m : Imm} : ∀ {xs : List AV} {ys : List Value} {xs' : List AV} {ys' : List Value}, VC m xs ys → VC m xs' ys' → VC m (xs ++ xs') (ys ++ ys')
  | _, _, _, _, .nil, k => k
  | _, _, _, _, .cons a b h, k => .cons a b (VC.append h k)
theorem VC.split {m : Imm} {xs xs' : List AV} {ys : List Value} (h : VC m (xs ++ xs') ys) : VC m xs (ys.take xs.length) ∧ VC m xs' (ys.drop xs.length) := by
  have a := h.take xs.length
  have b := h.drop xs.length
  simpa using And.intro a b
theorem VC.one {m : Imm} : ∀ {xs : List AV} {ys : List Value}, VC m xs ys → ∀ y ∈ ys, y.oneCell' = true
  | _, _, .nil, _, h => by cases h
  | _, _, .cons _ b h, y, hy => by
    rcases List.mem_cons.1 hy with rfl | hy
    · exact b
    · exact VC.one h y hy
theorem VC.get {m : Imm} : ∀ {xs : List AV} {ys : List Value}, VC m xs ys → ∀ {i : Nat} {x : AV}, xs[i]? = some x → ∃ y, ys[i]? = some y ∧ V m x y ∧ y.oneCell' = true
  | _, _, .nil, _, _, h => by simp at h
  | _, _, .cons a b h, 0, x, hx => by simp at hx; subst hx; exact ⟨_, by simp, a, b⟩
  | _, _, .cons a b h, i + 1, x, hx => by simp at hx; obtain ⟨y, h1, h2⟩ := VC.get h hx; exact ⟨y, by simpa using h1, h2⟩
theorem VT.get {m : Imm} : ∀ {xs : List AV} {ys : List Value}, VT m xs ys → ∀ {i : Nat} {x : AV}, xs[i]? = some x → ∃ y, ys[i]? = some y ∧ V m x y
  | _, _, .nil, _, _, h => by simp at h
  | _, _, .cons a h, 0, x, hx => by simp at hx; subst hx; exact ⟨_, by simp, a⟩
  | _, _, .cons a h, i + 1, x, hx => by simp at hx; obtain ⟨y, h1, h2⟩ := VT.get h hx; exact ⟨y, by simpa using h1, h2⟩
theorem Held.drop {m : Imm} {b o : Nat} {vs : List Value} (n : Nat) (h : Held m b o vs) : Held m b (o + n) (vs.drop n) := fun j v hv => by
  rw [List.getElem?_drop] at hv
  have := h _ _ hv
  rwa [show o + n + j = o + (n + j) by omega]
theorem Held.take {m : Imm} {b o : Nat} {vs : List Value} (n : Nat) (h : Held m b o vs) : Held m b o (vs.take n) := fun j v hv => by
  rw [List.getElem?_take] at hv
  split at hv
  · exact h _ _ hv
  · cases hv

/-- Rows of elements of one size: an element's cells. -/
theorem flat_drop {sz : Nat} : ∀ {es : List (List AV)} {i : Nat}, (∀ e ∈ es, e.length = sz) → es.flatten.drop (i * sz) = (es.drop i).flatten
  | [], i, _ => by simp
  | e :: es, 0, _ => by simp
  | e :: es, i + 1, h => by
    have he : e.length = sz := h e (by simp)
    have := flat_drop (es := es) (i := i) (fun x hx => h x (by simp [hx]))
    rw [List.flatten_cons, List.drop_append, List.drop_eq_nil_of_le (by rw [he]; exact Nat.le_mul_of_pos_left _ (by omega)), List.nil_append, he, show (i + 1) * sz - sz = i * sz by rw [Nat.add_mul]; omega, this]
    simp
theorem flat_len {sz : Nat} : ∀ {es : List (List AV)}, (∀ e ∈ es, e.length = sz) → es.flatten.length = es.length * sz
  | [], _ => by simp
  | e :: es, h => by
    rw [List.flatten_cons, List.length_append, flat_len (fun x hx => h x (by simp [hx])), h e (by simp), List.length_cons, Nat.add_mul]; omega
theorem flat_take {sz : Nat} {es : List (List AV)} {i : Nat} (h : ∀ e ∈ es, e.length = sz) : es.flatten.take (i * sz) = (es.take i).flatten := by
  have h1 : es = es.take i ++ es.drop i := (List.take_append_drop i es).symm
  have h2 : (es.take i).flatten.length = (es.take i).length * sz := flat_len (fun e he => h e (List.mem_of_mem_take he))
  conv => lhs; rw [h1]
  rw [List.flatten_append, List.take_append]
  rcases Nat.lt_or_ge es.length i with hi | hi
  · have e1 : (es.take i).length = es.length := by simp; omega
    have e2 : es.drop i = [] := List.drop_eq_nil_of_le (by omega)
    rw [e2, List.take_of_length_le (by rw [h2, e1]; exact Nat.mul_le_mul_right _ (by omega))]; simp
  · have e1 : (es.take i).length = i := by simp; omega
    rw [h2, e1, Nat.sub_self, List.take_zero, List.append_nil, List.take_of_length_le (by rw [h2, e1]; exact Nat.le_refl _)]

/-- What is written to: variables (by their block) with what they hold; rows that may be appended to, with how many elements they have. -/
structure Sg where
  vars : Nat → Option (List AV)
  tips : Hdr → Option Nat

structure Inv (B : Nat) (w0 : World) (m : Imm) (σ : Sg) (w : World) : Prop where
  base : Below B w0 w
  size : B ≤ w.heap.size
  imm : ∀ b o u, m b o = some u → w.cell? ⟨b, o, none⟩ = some u
  var : ∀ b cs, σ.vars b = some cs → B ≤ b ∧ (∀ o, m b o = none) ∧ ∃ vs t, w.heap[b]? = some (.cells vs t (0, 0)) ∧ VC m cs vs.toList
  tip : ∀ h n, σ.tips h = some n → ∀ b, h.blk = some b → B ≤ b ∧ n ≤ h.cap ∧ (∀ o, h.off + n * h.sz ≤ o → m b o = none) ∧ ∃ vs t, w.heap[b]? = some (.cells vs t (0, 0)) ∧ h.off + h.cap * h.sz ≤ vs.size
  sep : ∀ b cs h n, σ.vars b = some cs → σ.tips h = some n → h.blk ≠ some b
  sep2 : ∀ h h' n n' b, σ.tips h = some n → σ.tips h' = some n' → h.blk = some b → h'.blk = some b → h = h'

/-- What is told of a call under way: of its slots, and of what is written to. -/
structure St where
  n : Nat
  fr : Nat → Option AV
  σ : Sg

structure Sim (B : Nat) (w0 : World) (m : Imm) (s : St) (a : Act) (w : World) : Prop where
  inv : Inv B w0 m s.σ w
  fr : ∀ t x, s.fr t = some x → ∃ y, a.tmps[t]? = some y ∧ V m x y
  n : a.tmps.size = s.n
  defers : a.defers = []

def St.put (s : St) (d : Nat) (x : AV) : St := { s with fr := fun t => if t = d then some x else s.fr t }
def St.puto (s : St) (d : Option Nat) (x : AV) : St := match d with | some d => s.put d x | none => s
def St.drop (s : St) (d : Option Nat) : St := match d with | some d => { s with fr := fun t => if t = d then none else s.fr t } | none => s

theorem Sim.put {B : Nat} {w0 : World} {m m' : Imm} {s : St} {a : Act} {w w' : World} {σ : Sg} (h : Sim B w0 m s a w) (hm : m.le m') (hi : Inv B w0 m' σ w') {d : Option Nat} {x : AV} {y : Value} (hd : ∀ t, d = some t → t < s.n) (hx : V m' x y) :
    Sim B w0 m' ({ s with σ := σ }.puto d x) (a.put d y) w' := by
  cases d with
  | none =>
    refine ⟨hi, fun t x hx => ?_, h.n, h.defers⟩
    obtain ⟨y, h1, h2⟩ := h.fr t x hx
    exact ⟨y, h1, h2.mono hm⟩
  | some d =>
    have hlt := hd d rfl
    refine ⟨hi, fun t z hz => ?_, by simpa [Act.put, St.puto, St.put] using h.n, h.defers⟩
    simp only [St.puto, St.put] at hz
    by_cases e : t = d
    · subst e
      simp only [if_true, Option.some.injEq] at hz
      subst hz
      refine ⟨y, ?_, hx⟩
      simp only [Act.put]
      rw [Array.getElem?_setIfInBounds_self]
      simp [h.n, hlt]
    · rw [if_neg e] at hz
      obtain ⟨y', h1, h2⟩ := h.fr t z hz
      refine ⟨y', ?_, h2.mono hm⟩
      simp only [Act.put]
      rw [Array.getElem?_setIfInBounds_ne (Ne.symm e)]
      exact h1
/-- A slot of which nothing is told any more. -/
theorem Sim.skip {B : Nat} {w0 : World} {m m' : Imm} {s : St} {a : Act} {w w' : World} {σ : Sg} (h : Sim B w0 m s a w) (hm : m.le m') (hi : Inv B w0 m' σ w') {d : Option Nat} (y : Value) :
    Sim B w0 m' ({ s with σ := σ }.drop d) (a.put d y) w' := by
  cases d with
  | none =>
    refine ⟨hi, fun t x hx => ?_, h.n, h.defers⟩
    obtain ⟨y, h1, h2⟩ := h.fr t x hx
    exact ⟨y, h1, h2.mono hm⟩
  | some d =>
    refine ⟨hi, fun t z hz => ?_, by simpa [Act.put, St.drop] using h.n, h.defers⟩
    simp only [St.drop] at hz
    by_cases e : t = d
    · simp [e] at hz
    · rw [if_neg e] at hz
      obtain ⟨y', h1, h2⟩ := h.fr t z hz
      refine ⟨y', ?_, h2.mono hm⟩
      simp only [Act.put]
      rw [Array.getElem?_setIfInBounds_ne (Ne.symm e)]
      exact h1

/-- New cells that never change. -/
def Imm.add (m : Imm) (g : Nat) (vs : List Value) : Imm := fun b o => if b = g then vs[o]? else m b o
theorem Inv.lt_var {B : Nat} {w0 : World} {m : Imm} {σ : Sg} {w : World} (h : Inv B w0 m σ w) {b : Nat} {cs : List AV} (hb : σ.vars b = some cs) : b < w.heap.size := by
  obtain ⟨_, _, vs, t, h1, _⟩ := h.var b cs hb
  exact (Array.getElem?_eq_some_iff.1 h1).1
theorem Inv.lt_imm {B : Nat} {w0 : World} {m : Imm} {σ : Sg} {w : World} (h : Inv B w0 m σ w) {b o : Nat} {u : Value} (hb : m b o = some u) : b < w.heap.size :=
  World.block_lt_of_cell? w ⟨b, o, none⟩ (h.imm b o u hb)
theorem Inv.lt_tip {B : Nat} {w0 : World} {m : Imm} {σ : Sg} {w : World} (h : Inv B w0 m σ w) {hd : Hdr} {n b : Nat} (ht : σ.tips hd = some n) (hb : hd.blk = some b) : b < w.heap.size := by
  obtain ⟨_, _, _, vs, t, h1, _⟩ := h.tip hd n ht b hb
  exact (Array.getElem?_eq_some_iff.1 h1).1
theorem add_le {B : Nat} {w0 : World} {m : Imm} {σ : Sg} {w : World} (h : Inv B w0 m σ w) (vs : List Value) : m.le (m.add w.heap.size vs) := fun b o u hu => by
  have := h.lt_imm hu
  simp [Imm.add, Nat.ne_of_lt this, hu]
theorem Inv.drew {B : Nat} {w0 : World} {m : Imm} {σ : Sg} {w : World} (h : Inv B w0 m σ w) : Inv B w0 m σ w.drew :=
  ⟨h.base.drew, h.size, h.imm, h.var, h.tip, h.sep, h.sep2⟩
theorem heap_old {w : World} {o : Obj} {b : Nat} (h : b < w.heap.size) : (w.alloc o).heap[b]? = w.heap[b]? := Below.heap_alloc w o b h
theorem heap_new (w : World) (o : Obj) : (w.alloc o).heap[w.heap.size]? = some o := by
  show (w.heap.push o)[w.heap.size]? = some o
  simp
/-- A new block of cells that never change. -/
theorem Inv.alloc {B : Nat} {w0 : World} {m : Imm} {σ : Sg} {w : World} (h : Inv B w0 m σ w) (vs : Array Value) (t : TypeId) : Inv B w0 (m.add w.heap.size vs.toList) σ (w.alloc (.cells vs t)) := by
  refine ⟨h.base.alloc h.size _, by have := h.size; simp; omega, fun b o u hu => ?_, fun b cs hb => ?_, fun hd n ht b hb => ?_, h.sep, h.sep2⟩
  · by_cases e : b = w.heap.size
    · subst e
      simp only [Imm.add, if_true] at hu
      rw [World.cell?_alloc_new]; simpa using hu
    · simp only [Imm.add, if_neg e] at hu
      rw [World.cell?_alloc_old _ _ _ e]
      exact h.imm _ _ _ hu
  · obtain ⟨h1, h2, us, t', h3, h4⟩ := h.var b cs hb
    have hlt := h.lt_var hb
    refine ⟨h1, fun o => by simp [Imm.add, Nat.ne_of_lt hlt, h2], us, t', by rw [heap_old hlt]; exact h3, h4.mono (add_le h _)⟩
  · obtain ⟨h1, h2, h3, us, t', h4, h5⟩ := h.tip hd n ht b hb
    have hlt := h.lt_tip ht hb
    refine ⟨h1, h2, fun o ho => by simp [Imm.add, Nat.ne_of_lt hlt, h3 o ho], us, t', by rw [heap_old hlt]; exact h4, h5⟩
end Go.Ab
