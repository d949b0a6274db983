/- What the model's entries and a few operations do at values that the kit's print tells: for the contracts that wip/supply.py lays. -/
import Derived.Laws.Externs
import Derived.Lib.BytesEntry
import Derived.Lib.SliceRun
import Derived.Laws.LoneSync
import Derived.Deep.MidRow
import Derived.Test.YtlhjdmpclfhoeaaVGuard
import Derived.Test.YtlhjdmpclfhoeaaVMore
namespace Go.Proofs.Ytlhjdmpclfhoeaa.Ext
open Go.RowKit Go.Proofs.YtlhjdmpclfhoeaaW.PrintWords Go.Proofs.YtlhjdmpclfhoeaaW.PrintLast Go.Proofs.YtlhjdmpclfhoeaaW.PrintMore
theorem pick_u8 : (if IntKind.u8.signed = true then (-1 : Int) else IntKind.u8.max) = 255 := by decide
theorem pick_u32 : (if IntKind.u32.signed = true then (-1 : Int) else IntKind.u32.max) = 4294967295 := by decide
theorem pick_u64 : (if IntKind.u64.signed = true then (-1 : Int) else IntKind.u64.max) = 18446744073709551615 := by decide
class Later (w w' : World) : Prop where
  out : Below w.heap.size w w'
instance Later.refl (w : World) : Later w w := ⟨Below.refl _ _⟩
instance Later.alloc (w w' : World) (o : Obj) [h : Later w w'] : Later w (w'.alloc o) := ⟨below_alloc h.out o⟩
instance Later.drewN (w w' : World) (n : Nat) [h : Later w w'] : Later w (w'.drewN n) := ⟨pw_below_drewN h.out n⟩
instance Later.drew (w w' : World) [h : Later w w'] : Later w w'.drew := ⟨below_drew h.out⟩
section
variable {α : Type} {d : Kd α} {e : TypeId} {base n : Nat} {ok : Nat → Prop} {v : Value} {A : Option Addr} {xs : List α} {w w0 w' : World}
theorem nR [k : Later w w'] (h : Kd.R d e w base ok v xs) : Kd.R d e w' base ok v xs := Kd.R_below h k.out
theorem nC [k : Later w w'] (h : Kd.C d w A n xs) : Kd.C d w' A n xs := Kd.C_below h k.out
theorem nB [k : Later w w'] (h : Below w0.heap.size w0 w) : Below w0.heap.size w0 w' := below_step h k.out
end
theorem a {p : Prop} (h : p) : Aside0 p := ⟨h⟩
theorem sb {α : Type} (l : List α) (i : Nat) (a : α) : l.toArray.setIfInBounds i a = (l.set i a).toArray := by simp
theorem sz {α : Type} (x y : α) (l : List α) : (x :: l).set 0 y = y :: l := rfl
theorem ss {α : Type} (x y : α) (l : List α) (n : Nat) : (x :: l).set (n + 1) y = x :: l.set n y := rfl
class Sg (a b c d e f : Nat) (w w' : World) : Prop where
  out : ∀ w0 : World, w0.heap.size ≤ a → w0.heap.size ≤ b → w0.heap.size ≤ c → w0.heap.size ≤ d → w0.heap.size ≤ e → w0.heap.size ≤ f → Below w0.heap.size w0 w → Below w0.heap.size w0 w'
section
variable (a b c d e f : Nat) (w w' : World)
instance Sg.refl : Sg a b c d e f w w := ⟨fun _ _ _ _ _ _ _ h => h⟩
instance Sg.alloc (o : Obj) [k : Sg a b c d e f w w'] : Sg a b c d e f w (w'.alloc o) := ⟨fun _ h1 h2 h3 h4 h5 h6 h => below_alloc (k.out _ h1 h2 h3 h4 h5 h6 h) o⟩
instance Sg.drewN (n : Nat) [k : Sg a b c d e f w w'] : Sg a b c d e f w (w'.drewN n) := ⟨fun _ h1 h2 h3 h4 h5 h6 h => pw_below_drewN (k.out _ h1 h2 h3 h4 h5 h6 h) n⟩
instance Sg.drew [k : Sg a b c d e f w w'] : Sg a b c d e f w w'.drew := ⟨fun _ h1 h2 h3 h4 h5 h6 h => below_drew1 (k.out _ h1 h2 h3 h4 h5 h6 h)⟩
instance Sg.set6 (i : Nat) (u : Value) [k : Sg a b c d e f w w'] : Sg a b c d e f w (w'.setCell ⟨f, i, none⟩ u) := ⟨fun _ h1 h2 h3 h4 h5 h6 h => below_set (k.out _ h1 h2 h3 h4 h5 h6 h) h6⟩
instance Sg.set5 (i : Nat) (u : Value) [k : Sg a b c d e f w w'] : Sg a b c d e f w (w'.setCell ⟨e, i, none⟩ u) := ⟨fun _ h1 h2 h3 h4 h5 h6 h => below_set (k.out _ h1 h2 h3 h4 h5 h6 h) h5⟩
instance Sg.set4 (i : Nat) (u : Value) [k : Sg a b c d e f w w'] : Sg a b c d e f w (w'.setCell ⟨d, i, none⟩ u) := ⟨fun _ h1 h2 h3 h4 h5 h6 h => below_set (k.out _ h1 h2 h3 h4 h5 h6 h) h4⟩
instance Sg.set3 (i : Nat) (u : Value) [k : Sg a b c d e f w w'] : Sg a b c d e f w (w'.setCell ⟨c, i, none⟩ u) := ⟨fun _ h1 h2 h3 h4 h5 h6 h => below_set (k.out _ h1 h2 h3 h4 h5 h6 h) h3⟩
instance Sg.set2 (i : Nat) (u : Value) [k : Sg a b c d e f w w'] : Sg a b c d e f w (w'.setCell ⟨b, i, none⟩ u) := ⟨fun _ h1 h2 h3 h4 h5 h6 h => below_set (k.out _ h1 h2 h3 h4 h5 h6 h) h2⟩
instance Sg.set1 (i : Nat) (u : Value) [k : Sg a b c d e f w w'] : Sg a b c d e f w (w'.setCell ⟨a, i, none⟩ u) := ⟨fun _ h1 h2 h3 h4 h5 h6 h => below_set (k.out _ h1 h2 h3 h4 h5 h6 h) h1⟩
end
theorem s1 {a : Nat} {w0 w w' : World} (h1 : w0.heap.size ≤ a) (h : Below w0.heap.size w0 w) [k : Sg a a a a a a w w'] : Below w0.heap.size w0 w' := k.out _ h1 h1 h1 h1 h1 h1 h
theorem s2 {a b : Nat} {w0 w w' : World} (h1 : w0.heap.size ≤ a) (h2 : w0.heap.size ≤ b) (h : Below w0.heap.size w0 w) [k : Sg a b b b b b w w'] : Below w0.heap.size w0 w' := k.out _ h1 h2 h2 h2 h2 h2 h
theorem s3 {a b c : Nat} {w0 w w' : World} (h1 : w0.heap.size ≤ a) (h2 : w0.heap.size ≤ b) (h3 : w0.heap.size ≤ c) (h : Below w0.heap.size w0 w) [k : Sg a b c c c c w w'] : Below w0.heap.size w0 w' := k.out _ h1 h2 h3 h3 h3 h3 h
theorem s4 {a b c d : Nat} {w0 w w' : World} (h1 : w0.heap.size ≤ a) (h2 : w0.heap.size ≤ b) (h3 : w0.heap.size ≤ c) (h4 : w0.heap.size ≤ d) (h : Below w0.heap.size w0 w) [k : Sg a b c d d d w w'] : Below w0.heap.size w0 w' := k.out _ h1 h2 h3 h4 h4 h4 h
theorem s5 {a b c d e : Nat} {w0 w w' : World} (h1 : w0.heap.size ≤ a) (h2 : w0.heap.size ≤ b) (h3 : w0.heap.size ≤ c) (h4 : w0.heap.size ≤ d) (h5 : w0.heap.size ≤ e) (h : Below w0.heap.size w0 w) [k : Sg a b c d e e w w'] : Below w0.heap.size w0 w' := k.out _ h1 h2 h3 h4 h5 h5 h
theorem s6 {a b c d e f : Nat} {w0 w w' : World} (h1 : w0.heap.size ≤ a) (h2 : w0.heap.size ≤ b) (h3 : w0.heap.size ≤ c) (h4 : w0.heap.size ≤ d) (h5 : w0.heap.size ≤ e) (h6 : w0.heap.size ≤ f) (h : Below w0.heap.size w0 w) [k : Sg a b c d e f w w'] : Below w0.heap.size w0 w' := k.out _ h1 h2 h3 h4 h5 h6 h
class K0 (g : Nat) (w w' : World) : Prop where
  out : ∀ w0 : World, KeepBut w0 w g none → KeepBut w0 w' g none
section
variable (g : Nat) (w w' : World)
instance K0.refl : K0 g w w := ⟨fun _ h => h⟩
instance K0.alloc (o : Obj) [k : K0 g w w'] : K0 g w (w'.alloc o) := ⟨fun _ h => keep_alloc (k.out _ h) o⟩
instance K0.drewN (n : Nat) [k : K0 g w w'] : K0 g w (w'.drewN n) := ⟨fun _ h => keep_drewN (k.out _ h) n⟩
instance K0.drew [k : K0 g w w'] : K0 g w w'.drew := ⟨fun _ h => keep_drew (k.out _ h)⟩
instance K0.set (i : Nat) (u : Value) [k : K0 g w w'] : K0 g w (w'.setCell ⟨g, i, none⟩ u) := ⟨fun _ h => (k.out _ h).set_ i u⟩
end
theorem kC {α : Type} {d : Kd α} {n : Nat} {A : Option Addr} {xs : List α} {w0 w w' : World} (h : Kd.C d w0 A n xs) (hb : Below w0.heap.size w0 w) [k : Later w w'] : Kd.C d w' A n xs := Kd.C_below (Kd.C_below h hb) k.out
class Nl (p : Prop) : Prop where
  out : p
section
variable {α : Type} (d : Kd α) (e : TypeId) (w : World) (base : Nat) (ok : Nat → Prop)
instance : Nl (Kd.S d e w base ok (.slice none 0 0) []) := ⟨Kd.S_nil _ _ _ _ _⟩
instance : Nl (Kd.N d e w base ok (.slice none 0 0) []) := ⟨Kd.N_nil _ _ _ _ _⟩
instance : Nl (Kd.V d e w base ok (.slice none 0 0) []) := ⟨Kd.V_nil _ _ _ _ _⟩
instance : Nl (Kd.Q d e w base ok (.slice none 0 0) []) := ⟨Kd.Q_nil _ _ _ _ _⟩
instance : Nl (Kd.R d e w base ok (.slice none 0 0) []) := ⟨Kd.R_nil _ _ _ _ _⟩
end
theorem nl {p : Prop} [k : Nl p] : p := k.out
theorem cells6 {w : World} {g t : Nat} {z0 z1 z2 z3 z4 z5 : Value} (h : w.heap[g]? = some (.cells #[z0, z1, z2, z3, z4, z5] t (0, 0))) : w.cell? ⟨g, 0, none⟩ = some z0 ∧ w.cell? ⟨g, 1, none⟩ = some z1 ∧ w.cell? ⟨g, 2, none⟩ = some z2 ∧ w.cell? ⟨g, 3, none⟩ = some z3 ∧ w.cell? ⟨g, 4, none⟩ = some z4 ∧ w.cell? ⟨g, 5, none⟩ = some z5 := ⟨(blk_cell h 0).trans rfl, (blk_cell h 1).trans rfl, (blk_cell h 2).trans rfl, (blk_cell h 3).trans rfl, (blk_cell h 4).trans rfl, (blk_cell h 5).trans rfl⟩
theorem froz6 {w : World} {g t : Nat} {cs : Array Value} (h : w.heap[g]? = some (.cells cs t (0, 0))) : w.frozen? ⟨g, 0, none⟩ = false ∧ w.frozen? ⟨g, 1, none⟩ = false ∧ w.frozen? ⟨g, 2, none⟩ = false ∧ w.frozen? ⟨g, 3, none⟩ = false ∧ w.frozen? ⟨g, 4, none⟩ = false ∧ w.frozen? ⟨g, 5, none⟩ = false := ⟨blk_frozen h 0, blk_frozen h 1, blk_frozen h 2, blk_frozen h 3, blk_frozen h 4, blk_frozen h 5⟩
def ix4 (x : Int × Int × Int × Int) (i : Int) : Int := if i = 0 then x.1 else if i = 1 then x.2.1 else if i = 2 then x.2.2.1 else x.2.2.2
theorem ix4_run {P : Program} {T e : TypeId} {z : Option Value} {b : Nat} {k : IntKind} (hu : P.underlying T = some (.array 4 e)) (he : P.underlying e = some (.int k)) (hi : (P.info? e).map (fun i => (i.zero, i.size, i.bytes)) = some (z, 1, b)) (x : Int × Int × Int × Int) (i : Int) (h0 : 0 ≤ i) (h1 : i < 4) (w : World) :
    Sem.run P (Instr.index T (.agg #[.int .i64 x.1, .int .i64 x.2.1, .int .i64 x.2.2.1, .int .i64 x.2.2.2]) (.int .i64 i)) w = .ok (.int .i64 (ix4 x i)) w := by
  obtain ⟨inf, hinf, hsz⟩ := Option.map_eq_some_iff.1 hi
  have hs : inf.size = 1 := by injection hsz with _ h; injection h
  have h3 : ([.int .i64 x.1, .int .i64 x.2.1, .int .i64 x.2.2.1, .int .i64 x.2.2.2] : List Value)[i.toNat]? = some (.int .i64 (ix4 x i)) := by
    have h : i = 0 ∨ i = 1 ∨ i = 2 ∨ i = 3 := by omega
    rcases h with rfl | rfl | rfl | rfl <;> rfl
  unfold Instr.index
  simp only [asIntOf, Sem.run_bind, Sem.run_pure, Result.andThen_ok, run_underlying hu]
  rw [if_pos ⟨h0, h1⟩]
  simp [part, isAgg, sizeOf, typeInfo, run_underlying he, Sem.run_bind, Sem.run_pure, hinf, hs, h3]
def ix9b (x : Bool × Bool × Bool × Bool × Bool × Bool × Bool × Bool × Bool) (i : Int) : Bool := if i = 0 then x.1 else if i = 1 then x.2.1 else if i = 2 then x.2.2.1 else if i = 3 then x.2.2.2.1 else if i = 4 then x.2.2.2.2.1 else if i = 5 then x.2.2.2.2.2.1 else if i = 6 then x.2.2.2.2.2.2.1 else if i = 7 then x.2.2.2.2.2.2.2.1 else x.2.2.2.2.2.2.2.2
theorem ia9b_cell {w : World} {g t : Nat} (x : Bool × Bool × Bool × Bool × Bool × Bool × Bool × Bool × Bool) (i : Int)
    (h : w.heap[g]? = some (.cells #[.bool x.1, .bool x.2.1, .bool x.2.2.1, .bool x.2.2.2.1, .bool x.2.2.2.2.1, .bool x.2.2.2.2.2.1, .bool x.2.2.2.2.2.2.1, .bool x.2.2.2.2.2.2.2.1, .bool x.2.2.2.2.2.2.2.2] t (0, 0))) (h0 : 0 ≤ i) (h1 : i < 9) : w.cell? ⟨g, i.toNat, none⟩ = some (.bool (ix9b x i)) := by
  refine (blk_cell h i.toNat).trans ?_
  have hh : i = 0 ∨ i = 1 ∨ i = 2 ∨ i = 3 ∨ i = 4 ∨ i = 5 ∨ i = 6 ∨ i = 7 ∨ i = 8 := by omega
  rcases hh with rfl | rfl | rfl | rfl | rfl | rfl | rfl | rfl | rfl <;> rfl
def Fr (w W : World) (g E : Nat) : Prop := w.heap.size ≤ W.heap.size ∧ ∀ (j : Nat) (cs : Array Value) (t : TypeId) (fr : Nat × Nat), w.heap[j]? = some (.cells cs t fr) → j ≠ g → t ≠ E → W.heap[j]? = some (.cells cs t fr)
theorem Fr.refl (w : World) (g E : Nat) : Fr w w g E := ⟨Nat.le_refl _, fun _ _ _ _ h _ _ => h⟩
section
variable {w W W1 : World} {g E : Nat}
theorem Fr.below (h : Fr w W g E) (hb : Below W.heap.size W W1) : Fr w W1 g E := ⟨Nat.le_trans h.1 hb.size, fun j cs t fr hj h1 h2 => by
  have h3 := h.2 j cs t fr hj h1 h2
  have hlt : j < W.heap.size := (Array.getElem?_eq_some_iff.1 h3).1
  rw [hb.block j hlt, h3]⟩
theorem Fr.of_below (hb : Below w.heap.size w W) (g E : Nat) : Fr w W g E := (Fr.refl w g E).below hb
theorem Fr.alloc (h : Fr w W g E) (o : Obj) : Fr w (W.alloc o) g E := h.below (below_alloc (Below.refl _ _) o)
theorem Fr.drewN (h : Fr w W g E) (n : Nat) : Fr w (W.drewN n) g E := h.below (pw_below_drewN (Below.refl _ _) n)
theorem Fr.drew (h : Fr w W g E) : Fr w W.drew g E := h.below (below_drew (Below.refl _ _))
theorem Fr.set_at (h : Fr w W g E) {a : Nat} (ha : ∀ j, j < w.heap.size → j ≠ g → j ≠ a) (i : Nat) (v : Value) : Fr w (W.setCell ⟨a, i, none⟩ v) g E := ⟨by have := h.1; simpa [World.setCell] using this, fun j cs t fr hj h1 h2 => by
  have hlt : j < w.heap.size := (Array.getElem?_eq_some_iff.1 hj).1
  rw [Below.heap_setCell _ _ _ _ (ha j hlt h1)]
  exact h.2 j cs t fr hj h1 h2⟩
theorem Fr.setg (h : Fr w W g E) (i : Nat) (v : Value) : Fr w (W.setCell ⟨g, i, none⟩ v) g E := h.set_at (fun _ _ h1 => h1) i v
theorem Fr.far (h : Fr w W g E) {a : Nat} (ha : w.heap.size ≤ a) (i : Nat) (v : Value) : Fr w (W.setCell ⟨a, i, none⟩ v) g E := h.set_at (fun j hj _ => by omega) i v
theorem Fr.trans (h : Fr w W g E) (h' : Fr W W1 g E) : Fr w W1 g E := ⟨Nat.le_trans h.1 h'.1, fun j cs t fr hj h1 h2 => h'.2 j cs t fr (h.2 j cs t fr hj h1 h2) h1 h2⟩
theorem Fr.blk (h : Fr w W g E) {a : Nat} {cs : Array Value} {t : TypeId} {fr : Nat × Nat} (hb : w.heap[a]? = some (.cells cs t fr)) (hne : a ≠ g) (ht : t ≠ E) : W.heap[a]? = some (.cells cs t fr) := h.2 a cs t fr hb hne ht
theorem Fr.grown {base : Nat} {ok : Nat → Prop} {v : Value} {xs : List Int} (h : Fr w W g E) (ho : Kd.R (Kd.int .u8) E W base ok v xs) (hg : W.grownBy W1 v.ownBlock) : Fr w W1 g E := ⟨Nat.le_trans h.1 hg.size, fun j cs t fr hj h1 h2 => by
  have h3 := h.2 j cs t fr hj h1 h2
  have hlt : j < W.heap.size := (Array.getElem?_eq_some_iff.1 h3).1
  rw [hg.block j hlt, h3]
  intro e
  rcases (Kd.own_of_R ho).2 with ⟨hv, h0⟩ | ⟨g', cap, cur, hv, hb, hg', hle, hm, hs, htk⟩
  · rw [hv] at e; simp [Value.ownBlock] at e
  · rw [hv] at e
    have e' : j = g' := by simpa [Value.ownBlock] using e
    subst e'
    rw [h3] at hg'
    injection hg' with e1
    injection e1 with _ e2
    exact h2 e2⟩
end
def Typ (W : World) (a t : Nat) : Prop := ∃ cs : Array Value, W.heap[a]? = some (.cells cs t (0, 0))
section
variable {W : World} {a t : Nat}
theorem Typ.of {cs : Array Value} (h : W.heap[a]? = some (.cells cs t (0, 0))) : Typ W a t := ⟨cs, h⟩
theorem Typ.set (h : Typ W a t) (g i : Nat) (v : Value) : Typ (W.setCell ⟨g, i, none⟩ v) a t := by
  obtain ⟨cs, h⟩ := h
  by_cases e : a = g
  · subst e; exact ⟨_, blk_put h i v rfl⟩
  · exact ⟨cs, blk_far (p := ⟨g, i, none⟩) h e v⟩
theorem Typ.alloc (h : Typ W a t) (o : Obj) : Typ (W.alloc o) a t := by obtain ⟨cs, h⟩ := h; exact ⟨cs, blk_alloc h o⟩
theorem Typ.drewN (h : Typ W a t) (n : Nat) : Typ (W.drewN n) a t := by obtain ⟨cs, h⟩ := h; exact ⟨cs, h⟩
theorem Typ.drew (h : Typ W a t) : Typ W.drew a t := by obtain ⟨cs, h⟩ := h; exact ⟨cs, h⟩
end
class Ty (w w' : World) : Prop where
  out : ∀ (a : Nat) (t : TypeId), Typ w a t → Typ w' a t
instance Ty.refl (w : World) : Ty w w := ⟨fun _ _ h => h⟩
instance Ty.alloc (w w' : World) (o : Obj) [k : Ty w w'] : Ty w (w'.alloc o) := ⟨fun _ _ h => (k.out _ _ h).alloc o⟩
instance Ty.drewN (w w' : World) (n : Nat) [k : Ty w w'] : Ty w (w'.drewN n) := ⟨fun _ _ h => (k.out _ _ h).drewN n⟩
instance Ty.drew (w w' : World) [k : Ty w w'] : Ty w w'.drew := ⟨fun _ _ h => (k.out _ _ h).drew⟩
instance Ty.set (w w' : World) (b i : Nat) (u : Value) [k : Ty w w'] : Ty w (w'.setCell ⟨b, i, none⟩ u) := ⟨fun _ _ h => (k.out _ _ h).set b i u⟩
theorem ty {w w' : World} {a : Nat} {cs : Array Value} {t : TypeId} (h : w.heap[a]? = some (.cells cs t (0, 0))) [k : Ty w w'] : Typ w' a t := k.out _ _ (Typ.of h)
theorem setCells_at (g : Nat) (t : TypeId) : ∀ (us : List Value) (o : Nat) (W : World) (cs : Array Value), W.heap[g]? = some (.cells cs t (0, 0)) → o + us.length = cs.size → (W.setCells g o us).heap[g]? = some (.cells (cs.toList.take o ++ us).toArray t (0, 0))
  | [], o, W, cs, h, hl => by
    have e : (cs.toList.take o ++ ([] : List Value)).toArray = cs := by
      simp at hl
      simp [hl, List.take_of_length_le (Nat.le_of_eq (Array.length_toList : cs.toList.length = cs.size))]
    rw [e]
    exact h
  | u :: us, o, W, cs, h, hl => by
    simp only [List.length_cons] at hl
    have h1 := blk_put (cs' := cs.setIfInBounds o u) h o u rfl
    have h2 := setCells_at g t us (o + 1) (W.setCell ⟨g, o, none⟩ u) _ h1 (by simp; omega)
    have e : (cs.setIfInBounds o u).toList.take (o + 1) ++ us = cs.toList.take o ++ u :: us := by
      have ho : o < cs.toList.length := by simp; omega
      rw [Array.toList_setIfInBounds, List.take_add_one, List.getElem?_set_self ho, List.take_set_of_le (Nat.le_refl o)]
      simp
    rw [e] at h2
    exact h2
theorem setCells_keep (g : Nat) (us : List Value) (o : Nat) (W : World) : KeepBut W (W.setCells g o us) g none := by
  obtain ⟨s1, s2, s3, s4⟩ := setCells_same g us o W
  exact ⟨by rw [s4]; exact Nat.le_refl _, fun i _ hg _ => setCells_far us o i hg⟩
theorem struct_store {P : Program} {ops : Array Oper} {Q : Exit → Act → World → Prop} {rest : List Oper} {o : Oper} {a : Act} {W : World} (hgd : o.guard = none) (hN : o.dst = none) (t : TypeId) (p x : Operand) (ho : o.op = .store t p x) {g e : Nat} (cells : Array Value) {cur : Array Value}
    (haddr : a.eval p = .pointer (some ⟨g, 0, none⟩)) (hx : a.eval x = .agg cells) (hh : W.heap[g]? = some (.cells cur e (0, 0))) (hsz : cells.size = cur.size) (ht : (P.info? t).map (·.size) = some cells.size) (h1 : cells.toList.all (·.oneCell') = true)
    (h : ∀ w1, w1.heap[g]? = some (.cells cells e (0, 0)) → KeepBut W w1 g none → (∀ B w0, Below B w0 W → B ≤ g → Below B w0 w1) → wpList P ops Q rest a w1) : wpList P ops Q (o :: rest) a W := by
  have hrun := run_store_run (P := P) t (.agg cells) cells.toList hh rfl (by simpa using ht) (o := 0) (by simp; omega) (fun q hq => List.all_eq_true.1 h1 q hq)
  have hrun' : (execOp a.eval o).run P W = .ok .skip (W.setCells g 0 cells.toList) := by
    unfold execOp
    simp only [ho, haddr, hx, Sem.run_bind, hrun, Result.andThen_ok, Sem.run_pure]
  refine wpList_plain hgd fun K hK => ?_
  unfold Oper.wp
  rw [hrun']
  show K (a.put o.dst undef) _
  rw [hN]
  have hb := setCells_at g e cells.toList 0 W cur hh (by simp; omega)
  have hk := setCells_keep g cells.toList 0 W
  obtain ⟨s1, s2, s3, s4⟩ := setCells_same g cells.toList 0 W
  simp only [List.take_zero, List.nil_append, Array.toArray_toList] at hb
  exact hK _ _ (h _ hb hk (fun B w0 HB hB => HB.trans ⟨s1, s2, s3, by rw [s4]; exact Nat.le_refl _, fun k hk' => setCells_far cells.toList 0 k (by omega)⟩))
theorem Fr.keep {w W W1 : World} {g gb E : Nat} (h : Fr w W g E) (hk : KeepBut W W1 gb none) (hge : w.heap.size ≤ gb) : Fr w W1 g E := ⟨Nat.le_trans h.1 hk.1, fun j cs t fr hj h1 h2 => by
  have h3 := h.2 j cs t fr hj h1 h2
  have hlt : j < w.heap.size := (Array.getElem?_eq_some_iff.1 hj).1
  rw [hk.2 j (Nat.lt_of_lt_of_le hlt h.1) (by omega) (by simp), h3]⟩
theorem alloc_event {P : Program} {ops : Array Oper} {Q : Exit → Act → World → Prop} {rest : List Oper} {o : Oper} {a : Act} {W : World} (hgd : o.guard = none) {N : Tmp} (_hd : o.dst = some N) {t : TypeId} (ho : o.op = .alloc t) {cells : Array Value} {n b : Nat} (hi : (P.info? t).map (fun i => (i.zero, i.size, i.bytes)) = some (some (.agg cells), n, b))
    (h : ∀ g, g = W.heap.size → ∀ w1, w1.heap[g]? = some (.cells cells t (0, 0)) → Below W.heap.size W w1 → wpList P ops Q rest (a.put o.dst (.pointer (some ⟨g, 0, none⟩))) w1) : wpList P ops Q (o :: rest) a W := by
  obtain ⟨i, hinf, e⟩ := Option.map_eq_some_iff.1 hi
  have hz : i.zero = some (.agg cells) := by injection e
  refine box_event hgd _hd (cs := cells) (t := t) ?_ h
  unfold execOp
  simp only [ho]
  simp [Instr.alloc, zeroValue, typeInfo, hinf, hz, newVar, newRow, Sem.run_bind, Value.cells]
def CellsAt (W : World) (B : Addr) : Nat → List Value → Prop
  | _, [] => True
  | j, u :: us => W.cell? (B.add j) = some u ∧ CellsAt W B (j + 1) us
theorem CellsAt.get {W : World} {B : Addr} : ∀ {us : List Value} {o : Nat}, CellsAt W B o us → ∀ j u, us[j]? = some u → W.cell? (B.add (o + j)) = some u
  | [], _, _, j, u, h => by simp at h
  | v :: us, o, hc, 0, u, h => by
    simp only [List.getElem?_cons_zero, Option.some.injEq] at h
    subst h
    exact hc.1
  | v :: us, o, hc, j + 1, u, h => by
    have := CellsAt.get hc.2 j u (by simpa using h)
    rwa [show o + 1 + j = o + (j + 1) by omega] at this
theorem struct_load {P : Program} {ops : Array Oper} {Q : Exit → Act → World → Prop} {rest : List Oper} {o : Oper} {a : Act} {W : World} (hgd : o.guard = none) (t : TypeId) (x : Operand) (ho : o.op = .load t x) {B : Addr} (cs : List Value) (haddr : a.eval x = .pointer (some B)) {d : TypeDesc}
    (hu : P.underlying t = some d) (hd : d.isRow = true) (hi : (P.info? t).map (·.size) = some cs.length) (hc : CellsAt W B 0 cs) (h : wpList P ops Q rest (a.put o.dst (.agg cs.toArray)) W) : wpList P ops Q (o :: rest) a W := by
  have hl : (loadCells B cs.length).run P W = .ok cs.toArray W := run_loadCells_list (P := P) W B cs (fun j v hv => by have := hc.get j v hv; rwa [Nat.zero_add] at this)
  have hv : (loadVar t B).run P W = .ok (.agg cs.toArray) W := by
    cases hq : P.info? t with
    | none => simp [hq] at hi
    | some i =>
      have hs : i.size = cs.length := by simpa [hq] using hi
      have hagg : (isAgg t).run P W = .ok true W := by
        unfold isAgg
        rw [Sem.run_bind, run_underlying hu W]
        cases d <;> simp_all [TypeDesc.isRow]
      simp [loadVar, Sem.run_bind, hagg, sizeOf, typeInfo, hq, hs, hl]
  have hrun : (execOp a.eval o).run P W = .ok (.value (.agg cs.toArray)) W := by
    unfold execOp
    simp only [ho, haddr, Instr.loadAt, Instr.sureAddr, Sem.run_bind, Sem.run_pure, Result.andThen_ok, hv]
  exact Kd.event_run hgd hrun h
theorem cellsAt_list {W : World} {g : Nat} : ∀ (us : List Value) (o : Nat), (∀ j u, us[j]? = some u → W.cell? ⟨g, o + j, none⟩ = some u) → CellsAt W ⟨g, 0, none⟩ o us
  | [], _, _ => trivial
  | u :: us, o, h => ⟨by have := h 0 u rfl; rwa [Addr.add_lit, Nat.zero_add], cellsAt_list us (o + 1) (fun j v hj => by have := h (j + 1) v (by simpa using hj); rwa [show o + 1 + j = o + (j + 1) by omega])⟩
theorem struct_load_blk {P : Program} {ops : Array Oper} {Q : Exit → Act → World → Prop} {rest : List Oper} {o : Oper} {a : Act} {W : World} (hgd : o.guard = none) (t : TypeId) (x : Operand) (ho : o.op = .load t x) {g e : Nat} {cells : Array Value} (haddr : a.eval x = .pointer (some ⟨g, 0, none⟩)) {d : TypeDesc}
    (hu : P.underlying t = some d) (hd : d.isRow = true) (hi : (P.info? t).map (·.size) = some cells.size) (hh : W.heap[g]? = some (.cells cells e (0, 0))) (h : wpList P ops Q rest (a.put o.dst (.agg cells)) W) : wpList P ops Q (o :: rest) a W := by
  refine struct_load hgd t x ho cells.toList haddr hu hd (by simpa using hi) (cellsAt_list cells.toList 0 (fun j u hj => ?_)) (by simpa using h)
  rw [Nat.zero_add, blk_cell hh]
  simpa using hj
theorem gw {a g m : Nat} (hg : g = m) (h : a ≤ m) : Aside0 (a ≤ g) := ⟨hg ▸ h⟩
theorem nt {a g m : Nat} (hg : g = m) (h : a < m) : Aside0 (a ≠ g) := ⟨hg ▸ Nat.ne_of_lt h⟩
theorem ng {a g m : Nat} (hg : g = m) (h : a < m) : Aside0 (g ≠ a) := ⟨hg ▸ Nat.ne_of_gt h⟩
theorem eT {α : Type} [BEq α] [LawfulBEq α] {a b : α} (h : a = b) : (a == b) = true ∧ (a != b) = false := ⟨beq_iff_eq.mpr h, bne_eq_false_iff_eq.mpr h⟩
theorem eF {α : Type} [BEq α] [LawfulBEq α] {a b : α} (h : ¬ a = b) : (a == b) = false ∧ (a != b) = true := ⟨beq_eq_false_iff_ne.mpr h, bne_iff_ne.mpr h⟩
theorem gs {P : Program} {ops : Array Oper} {Q : Exit → Act → World → Prop} {rest : List Oper} {oi : Oper} {a : Act} {w : World} (N : Option Tmp) (hd : oi.dst = N) (hg : oi.guard = none) {f : FuncId} {fn : Func} {as : Array Operand} {ts : Array TypeId} (hf : P.funcs[f]? = some fn) (args : Array Value)
    (hop : oi.op = .call { callee := .value (.func f), args := as, argTypes := ts }) (h : Calls P f args w fun e w' => ∃ v, e = .returned v ∧ wpList P ops Q rest (a.put N v) w')
    (hargs : as.map a.eval = args := by (try simp only [List.map_toArray, List.map_cons, List.map_nil]); first | done | rfl | (simp only [List.length_drop, List.length_take]; rfl))
    (hname : (fn.name == "runtime.NumGoroutine") = false := by kernel_rfl) (hb : fn.body.isSome = true := by rfl) : wpList P ops Q (oi :: rest) a w :=
  goesL_ N hd hg hf hname hb args hop hargs h
class Pb (g a b c : Nat) (cs : Array Value) (W W' : World) (cs' : outParam (Array Value)) : Prop where
  out : ∀ t : TypeId, g ≠ a → g ≠ b → g ≠ c → W.heap[g]? = some (.cells cs t (0, 0)) → W'.heap[g]? = some (.cells cs' t (0, 0))
section
variable {g a b c : Nat} {cs cs' : Array Value} {W W' : World}
instance Pb.refl : Pb g a b c cs W W cs := ⟨fun _ _ _ _ h => h⟩
instance Pb.alloc (o : Obj) [k : Pb g a b c cs W W' cs'] : Pb g a b c cs W (W'.alloc o) cs' := ⟨fun _ h1 h2 h3 h => blk_below (k.out _ h1 h2 h3 h) (below_alloc (Below.refl _ _) o)⟩
instance Pb.drewN (n : Nat) [k : Pb g a b c cs W W' cs'] : Pb g a b c cs W (W'.drewN n) cs' := ⟨fun _ h1 h2 h3 h => blk_below (k.out _ h1 h2 h3 h) (pw_below_drewN (Below.refl _ _) n)⟩
instance Pb.drew [k : Pb g a b c cs W W' cs'] : Pb g a b c cs W W'.drew cs' := ⟨fun _ h1 h2 h3 h => blk_below (k.out _ h1 h2 h3 h) (below_drew (Below.refl _ _))⟩
instance Pb.far3 (i : Nat) (u : Value) [k : Pb g a b c cs W W' cs'] : Pb g a b c cs W (W'.setCell ⟨c, i, none⟩ u) cs' := ⟨fun _ h1 h2 h3 h => blk_far (k.out _ h1 h2 h3 h) h3 u⟩
instance Pb.far2 (i : Nat) (u : Value) [k : Pb g a b c cs W W' cs'] : Pb g a b c cs W (W'.setCell ⟨b, i, none⟩ u) cs' := ⟨fun _ h1 h2 h3 h => blk_far (k.out _ h1 h2 h3 h) h2 u⟩
instance Pb.far1 (i : Nat) (u : Value) [k : Pb g a b c cs W W' cs'] : Pb g a b c cs W (W'.setCell ⟨a, i, none⟩ u) cs' := ⟨fun _ h1 h2 h3 h => blk_far (k.out _ h1 h2 h3 h) h1 u⟩
instance Pb.put (i : Nat) (u : Value) [k : Pb g a b c cs W W' cs'] : Pb g a b c cs W (W'.setCell ⟨g, i, none⟩ u) (cs'.setIfInBounds i u) := ⟨fun _ h1 h2 h3 h => blk_put (k.out _ h1 h2 h3 h) i u rfl⟩
theorem pb0 {t : TypeId} {cs2 : Array Value} (h : W.heap[g]? = some (.cells cs t (0, 0))) [k : Pb g (g + 1) (g + 1) (g + 1) cs W W' cs'] (e : cs' = cs2 := by first | (with_reducible rfl) | (simp only [List.setIfInBounds_toArray, List.set_cons_zero, List.set_cons_succ]; done) | rfl) : W'.heap[g]? = some (.cells cs2 t (0, 0)) := e ▸ k.out t (by omega) (by omega) (by omega) h
theorem pb1 {t : TypeId} {cs2 : Array Value} (ha : g ≠ a) (h : W.heap[g]? = some (.cells cs t (0, 0))) [k : Pb g a a a cs W W' cs'] (e : cs' = cs2 := by first | (with_reducible rfl) | (simp only [List.setIfInBounds_toArray, List.set_cons_zero, List.set_cons_succ]; done) | rfl) : W'.heap[g]? = some (.cells cs2 t (0, 0)) := e ▸ k.out t ha ha ha h
end
class Ff (g E : Nat) (W W' : World) : Prop where
  out : ∀ w : World, Fr w W g E → Fr w W' g E
section
variable {g E : Nat} {w W W' : World}
instance Ff.refl : Ff g E W W := ⟨fun _ h => h⟩
instance Ff.alloc (o : Obj) [k : Ff g E W W'] : Ff g E W (W'.alloc o) := ⟨fun _ h => (k.out _ h).alloc o⟩
instance Ff.drewN (n : Nat) [k : Ff g E W W'] : Ff g E W (W'.drewN n) := ⟨fun _ h => (k.out _ h).drewN n⟩
instance Ff.drew [k : Ff g E W W'] : Ff g E W W'.drew := ⟨fun _ h => (k.out _ h).drew⟩
instance Ff.set (i : Nat) (u : Value) [k : Ff g E W W'] : Ff g E W (W'.setCell ⟨g, i, none⟩ u) := ⟨fun _ h => (k.out _ h).setg i u⟩
theorem fr (h : Fr w W g E) [k : Ff g E W W'] : Fr w W' g E := k.out _ h
end
end Go.Proofs.Ytlhjdmpclfhoeaa.Ext
