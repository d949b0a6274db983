-- Written by wip/printx.py, a program of this work over the kit's print, for this claim.
import Derived.Test.YtlhjdmpclfhoeaaPKx0
namespace Go.Proofs.Ytlhjdmpclfhoeaa.PK
open Go.RowKit Go.Proofs.YtlhjdmpclfhoeaaW.PrintWords Go.Proofs.YtlhjdmpclfhoeaaW.PrintLast Go.Proofs.YtlhjdmpclfhoeaaW.PrintMore
attribute [local go_sem] max2_int min2_int max_two min_two max_three min_three max_four min_four   -- for this text's walks alone
attribute [local go_sem] Ext.pick_u8 Ext.pick_u32 Ext.pick_u64
set_option linter.unusedVariables false
set_option linter.unusedSimpArgs false

/-- A state of type 96 at block g of W; what its slices lead to came in by w0. -/
def IsS96 (w0 W : World) (g : Nat) (f0 : List Int) (f1 : Int) (f2 : Int) : Prop := ∃ A0 c0, W.heap[g]? = some (.cells #[.slice A0 f0.length c0, .int .i64 f1, .int .i64 f2] 96 (0, 0)) ∧ w0.heap.size ≤ g ∧ (Kd.C (Kd.int .u8) w0 A0 f0.length f0 ∧ f0.length ≤ c0)
theorem IsS96.grown {w0 W : World} {g : Nat} {f0 : List Int} {f1 : Int} {f2 : Int} {W1 : World} {row : Option Nat} (h : IsS96 w0 W g f0 f1 f2) (hw : W.grownBy W1 row) (hne : some g ≠ row) : IsS96 w0 W1 g f0 f1 f2 := by
  obtain ⟨A0, c0, hb, hg, hr0⟩ := h
  exact ⟨A0, c0, blk_grown hb hw hne, hg, hr0⟩
theorem IsS96.own_neN {w0 W : World} {g : Nat} {f0 : List Int} {f1 : Int} {f2 : Int} {α : Type} {d : Kd α} {e : Nat} {base : Nat} {ok : Nat → Prop} {v : Value} {xs : List α} (h : IsS96 w0 W g f0 f1 f2) (ho : Kd.N d e W base ok v xs) (ht : e ≠ 96) : some g ≠ v.ownBlock := by
  obtain ⟨A0, c0, hb, hg, hr0⟩ := h
  exact Kd.N_ne ho hb ht
theorem IsS96.fresh {w0 W : World} {g : Nat} {f0 : List Int} {f1 : Int} {f2 : Int} (h : IsS96 w0 W g f0 f1 f2) : ∀ k, W.heap.size ≤ k → k ≠ g := by
  obtain ⟨A0, c0, hb, hg, hr0⟩ := h
  exact Kd.freshB hb
theorem IsS96.kept {w0 W : World} {g : Nat} {f0 : List Int} {f1 : Int} {f2 : Int} {W1 : World} {S : Nat → Prop} (h : IsS96 w0 W g f0 f1 f2) (hk : Kept W W1 S) (hne : ¬ S g) : IsS96 w0 W1 g f0 f1 f2 := by
  obtain ⟨A0, c0, hb, hg, hr0⟩ := h
  exact ⟨A0, c0, blk_kept hb hk hne, hg, hr0⟩
theorem IsS96.keepb {w0 W : World} {g : Nat} {f0 : List Int} {f1 : Int} {f2 : Int} {W1 : World} {gb : Nat} (h : IsS96 w0 W g f0 f1 f2) (hk : KeepBut W W1 gb none) (hne : g ≠ gb) : IsS96 w0 W1 g f0 f1 f2 := by
  obtain ⟨A0, c0, hb, hg, hr0⟩ := h
  exact ⟨A0, c0, KeepBut.blk hk hb hne (by simp), hg, hr0⟩
theorem IsS96.below {w0 W : World} {g : Nat} {f0 : List Int} {f1 : Int} {f2 : Int} {W1 : World} (h : IsS96 w0 W g f0 f1 f2) (hw : Below W.heap.size W W1) : IsS96 w0 W1 g f0 f1 f2 := h.grown (grown_of_below hw none) (by simp)
theorem IsS96.alloc {w0 W : World} {g : Nat} {f0 : List Int} {f1 : Int} {f2 : Int} (h : IsS96 w0 W g f0 f1 f2) (o : Obj) : IsS96 w0 (W.alloc o) g f0 f1 f2 := h.below (below_alloc (Below.refl _ _) o)
theorem IsS96.drewN {w0 W : World} {g : Nat} {f0 : List Int} {f1 : Int} {f2 : Int} (h : IsS96 w0 W g f0 f1 f2) (m : Nat) : IsS96 w0 (W.drewN m) g f0 f1 f2 := h
theorem IsS96.drew {w0 W : World} {g : Nat} {f0 : List Int} {f1 : Int} {f2 : Int} (h : IsS96 w0 W g f0 f1 f2) : IsS96 w0 W.drew g f0 f1 f2 := h
theorem IsS96.at_ {w0 W : World} {g : Nat} {f0 : List Int} {f1 : Int} {f2 : Int} {w' : World} {m : Nat} (hq : W.drewN m = w') (h : IsS96 w0 W g f0 f1 f2) : IsS96 w0 w' g f0 f1 f2 := by subst hq; exact IsS96.drewN h m
theorem IsS96.apart {w0 W : World} {g : Nat} {f0 : List Int} {f1 : Int} {f2 : Int} {α : Type} {d : Kd α} {e : Nat} {base : Nat} {ok : Nat → Prop} {v : Value} {xs : List α} (h : IsS96 w0 W g f0 f1 f2) (ho : d.R e W base ok v xs) (ht : ∀ q, q ∈ e :: d.E → q ≠ 96) : d.R e W base (fun k => ok k ∧ k ≠ g) v xs := by
  obtain ⟨A0, c0, hb, hg, hr0⟩ := h
  exact Kd.R_types ho hb ht
theorem IsS96.own_ne {w0 W : World} {g : Nat} {f0 : List Int} {f1 : Int} {f2 : Int} {α : Type} {d : Kd α} {e : Nat} {base : Nat} {ok : Nat → Prop} {v : Value} {xs : List α} (h : IsS96 w0 W g f0 f1 f2) (ho : d.R e W base ok v xs) (ht : e ≠ 96) : some g ≠ v.ownBlock := by
  obtain ⟨A0, c0, hb, hg, hr0⟩ := h
  exact Kd.R_ne ho hb ht
theorem IsS96.apartQ {w0 W : World} {g : Nat} {f0 : List Int} {f1 : Int} {f2 : Int} {α : Type} {d : Kd α} {e : Nat} {base : Nat} {ok : Nat → Prop} {v : Value} {xs : List α} (h : IsS96 w0 W g f0 f1 f2) (ho : d.Q e W base ok v xs) (ht : ∀ q, q ∈ e :: d.E → q ≠ 96) : d.Q e W base (fun k => ok k ∧ k ≠ g) v xs := by
  obtain ⟨A0, c0, hb, hg, hr0⟩ := h
  exact Kd.Q_types ho hb ht
theorem IsS96.own_neQ {w0 W : World} {g : Nat} {f0 : List Int} {f1 : Int} {f2 : Int} {α : Type} {d : Kd α} {e : Nat} {base : Nat} {ok : Nat → Prop} {v : Value} {xs : List α} (h : IsS96 w0 W g f0 f1 f2) (ho : d.Q e W base ok v xs) (ht : e ≠ 96) : some g ≠ v.ownBlock := by
  obtain ⟨A0, c0, hb, hg, hr0⟩ := h
  exact Kd.Q_ne ho hb ht
theorem IsS96.apartS {w0 W : World} {g : Nat} {f0 : List Int} {f1 : Int} {f2 : Int} {α : Type} {d : Kd α} {e : Nat} {base : Nat} {ok : Nat → Prop} {v : Value} {xs : List α} (h : IsS96 w0 W g f0 f1 f2) (ho : d.S e W base ok v xs) (ht : ∀ q, q ∈ e :: d.E → q ≠ 96) : d.S e W base (fun k => ok k ∧ k ≠ g) v xs := by
  obtain ⟨A0, c0, hb, hg, hr0⟩ := h
  exact Kd.S_types ho hb ht
theorem IsS96.own_neS {w0 W : World} {g : Nat} {f0 : List Int} {f1 : Int} {f2 : Int} {α : Type} {d : Kd α} {e : Nat} {base : Nat} {ok : Nat → Prop} {v : Value} {xs : List α} (h : IsS96 w0 W g f0 f1 f2) (ho : d.S e W base ok v xs) (ht : e ≠ 96) : some g ≠ v.ownBlock := by
  obtain ⟨A0, c0, hb, hg, hr0⟩ := h
  exact Kd.S_ne ho hb ht
theorem IsS96.lt {w0 W : World} {g : Nat} {f0 : List Int} {f1 : Int} {f2 : Int} (h : IsS96 w0 W g f0 f1 f2) : g < W.heap.size := by
  obtain ⟨A0, c0, hb, hg, hr0⟩ := h
  exact blk_lt hb
theorem IsS96.ge {w0 W : World} {g : Nat} {f0 : List Int} {f1 : Int} {f2 : Int} (h : IsS96 w0 W g f0 f1 f2) : w0.heap.size ≤ g := by
  obtain ⟨A0, c0, hb, hg, hr0⟩ := h
  exact hg
theorem IsS96.ne_blk {w0 W : World} {g : Nat} {f0 : List Int} {f1 : Int} {f2 : Int} {a : Nat} {cs : Array Value} {t : TypeId} {fr : Nat × Nat} (h : IsS96 w0 W g f0 f1 f2) (hb2 : W.heap[a]? = some (.cells cs t fr)) (ht : t ≠ 96) : g ≠ a := by
  obtain ⟨A0, c0, hb, hg, hr0⟩ := h; rintro rfl; rw [hb] at hb2
  injection hb2 with hb2
  injection hb2 with _ ht2
  exact ht ht2.symm
theorem IsS96.far {w0 W : World} {g : Nat} {f0 : List Int} {f1 : Int} {f2 : Int} {p : Addr} (h : IsS96 w0 W g f0 f1 f2) (hne : g ≠ p.block) (u : Value) : IsS96 w0 (W.setCell p u) g f0 f1 f2 := by
  obtain ⟨A0, c0, hb, hg, hr0⟩ := h
  exact ⟨A0, c0, blk_far hb hne u, hg, hr0⟩
theorem cellS96_0 {W : World} {g : Nat} {A0 : Option Addr} {c0 : Nat} {f0 : List Int} {f1 : Int} {f2 : Int} (h : W.heap[g]? = some (.cells #[.slice A0 f0.length c0, .int .i64 f1, .int .i64 f2] 96 (0, 0))) : W.cell? ⟨g, 0, none⟩ = some (.slice A0 f0.length c0) := (blk_cell h 0).trans rfl
theorem cellS96_1 {W : World} {g : Nat} {A0 : Option Addr} {c0 : Nat} {f0 : List Int} {f1 : Int} {f2 : Int} (h : W.heap[g]? = some (.cells #[.slice A0 f0.length c0, .int .i64 f1, .int .i64 f2] 96 (0, 0))) : W.cell? ⟨g, 1, none⟩ = some (.int .i64 f1) := (blk_cell h 1).trans rfl
theorem IsS96.set_1 {w0 W : World} {g : Nat} {f0 : List Int} {f1 : Int} {f2 : Int} (h : IsS96 w0 W g f0 f1 f2) (x : Int) : IsS96 w0 (W.setCell ⟨g, 1, none⟩ (.int .i64 x)) g f0 x f2 := by
  obtain ⟨A0, c0, hb, hg, hr0⟩ := h
  exact ⟨A0, c0, by simpa using blk_set hb 1 (.int .i64 x), hg, hr0⟩
theorem cellS96_2 {W : World} {g : Nat} {A0 : Option Addr} {c0 : Nat} {f0 : List Int} {f1 : Int} {f2 : Int} (h : W.heap[g]? = some (.cells #[.slice A0 f0.length c0, .int .i64 f1, .int .i64 f2] 96 (0, 0))) : W.cell? ⟨g, 2, none⟩ = some (.int .i64 f2) := (blk_cell h 2).trans rfl
theorem IsS96.set_2 {w0 W : World} {g : Nat} {f0 : List Int} {f1 : Int} {f2 : Int} (h : IsS96 w0 W g f0 f1 f2) (x : Int) : IsS96 w0 (W.setCell ⟨g, 2, none⟩ (.int .i64 x)) g f0 f1 x := by
  obtain ⟨A0, c0, hb, hg, hr0⟩ := h
  exact ⟨A0, c0, by simpa using blk_set hb 2 (.int .i64 x), hg, hr0⟩
theorem IsS96.new (w0 W : World) (A0 : Option Addr) (c0 : Nat) (f0 : List Int) (f1 : Int) (f2 : Int) (hB : Below w0.heap.size w0 W) (hr0 : Kd.C (Kd.int .u8) w0 A0 f0.length f0 ∧ f0.length ≤ c0) : IsS96 w0 (W.alloc (.cells #[.slice A0 f0.length c0, .int .i64 f1, .int .i64 f2] 96)) W.heap.size f0 f1 f2 := ⟨A0, c0, by simpa using heap_alloc_new W _, hB.size, hr0⟩
class IsS96.L (g : Nat) (f0 : List Int) (f1 : Int) (f2 : Int) (W W' : World) (f0' : outParam (List Int)) (f1' : outParam (Int)) (f2' : outParam (Int)) : Prop where
  out : ∀ w0 : World, IsS96 w0 W g f0 f1 f2 → IsS96 w0 W' g f0' f1' f2'
instance IsS96.L.refl (g : Nat) (f0 : List Int) (f1 : Int) (f2 : Int) (W : World) : IsS96.L g f0 f1 f2 W W f0 f1 f2 := ⟨fun _ h => h⟩
instance IsS96.L.alloc (g : Nat) (f0 : List Int) (f1 : Int) (f2 : Int) (W W' : World) (f0' : (List Int)) (f1' : (Int)) (f2' : (Int)) (o : Obj) [k : IsS96.L g f0 f1 f2 W W' f0' f1' f2'] : IsS96.L g f0 f1 f2 W (W'.alloc o) f0' f1' f2' := ⟨fun _ h => IsS96.alloc (k.out _ h) o⟩
instance IsS96.L.drewN (g : Nat) (f0 : List Int) (f1 : Int) (f2 : Int) (W W' : World) (f0' : (List Int)) (f1' : (Int)) (f2' : (Int)) (n : Nat) [k : IsS96.L g f0 f1 f2 W W' f0' f1' f2'] : IsS96.L g f0 f1 f2 W (W'.drewN n) f0' f1' f2' := ⟨fun _ h => IsS96.drewN (k.out _ h) n⟩
instance IsS96.L.drew (g : Nat) (f0 : List Int) (f1 : Int) (f2 : Int) (W W' : World) (f0' : (List Int)) (f1' : (Int)) (f2' : (Int)) [k : IsS96.L g f0 f1 f2 W W' f0' f1' f2'] : IsS96.L g f0 f1 f2 W W'.drew f0' f1' f2' := ⟨fun _ h => IsS96.drew (k.out _ h)⟩
instance IsS96.L.set_1 (g : Nat) (f0 : List Int) (f1 : Int) (f2 : Int) (W W' : World) (f0' : (List Int)) (f1' : (Int)) (f2' : (Int)) (x : Int) [k : IsS96.L g f0 f1 f2 W W' f0' f1' f2'] : IsS96.L g f0 f1 f2 W (W'.setCell ⟨g, 1, none⟩ (.int .i64 x)) f0' x f2' := ⟨fun _ h => IsS96.set_1 (k.out _ h) x⟩
instance IsS96.L.set_2 (g : Nat) (f0 : List Int) (f1 : Int) (f2 : Int) (W W' : World) (f0' : (List Int)) (f1' : (Int)) (f2' : (Int)) (x : Int) [k : IsS96.L g f0 f1 f2 W W' f0' f1' f2'] : IsS96.L g f0 f1 f2 W (W'.setCell ⟨g, 2, none⟩ (.int .i64 x)) f0' f1' x := ⟨fun _ h => IsS96.set_2 (k.out _ h) x⟩
theorem IsS96.go {g : Nat} {f0 : List Int} {f1 : Int} {f2 : Int} {W W' : World} {f0' : List Int} {f1' : Int} {f2' : Int} {w0 : World} (h : IsS96 w0 W g f0 f1 f2) [k : IsS96.L g f0 f1 f2 W W' f0' f1' f2'] : IsS96 w0 W' g f0' f1' f2' := k.out w0 h
class IsS96.F (g a b c d : Nat) (f0 : List Int) (f1 : Int) (f2 : Int) (W W' : World) (f0' : outParam (List Int)) (f1' : outParam (Int)) (f2' : outParam (Int)) : Prop where
  out : ∀ w0 : World, g ≠ a → g ≠ b → g ≠ c → g ≠ d → IsS96 w0 W g f0 f1 f2 → IsS96 w0 W' g f0' f1' f2'
instance IsS96.F.refl (g a b c d : Nat) (f0 : List Int) (f1 : Int) (f2 : Int) (W : World) : IsS96.F g a b c d f0 f1 f2 W W f0 f1 f2 := ⟨fun _ h1 h2 h3 h4 h => h⟩
instance IsS96.F.alloc (g a b c d : Nat) (f0 : List Int) (f1 : Int) (f2 : Int) (W W' : World) (f0' : (List Int)) (f1' : (Int)) (f2' : (Int)) (o : Obj) [k : IsS96.F g a b c d f0 f1 f2 W W' f0' f1' f2'] : IsS96.F g a b c d f0 f1 f2 W (W'.alloc o) f0' f1' f2' := ⟨fun _ h1 h2 h3 h4 h => IsS96.alloc (k.out _ h1 h2 h3 h4 h) o⟩
instance IsS96.F.drewN (g a b c d : Nat) (f0 : List Int) (f1 : Int) (f2 : Int) (W W' : World) (f0' : (List Int)) (f1' : (Int)) (f2' : (Int)) (n : Nat) [k : IsS96.F g a b c d f0 f1 f2 W W' f0' f1' f2'] : IsS96.F g a b c d f0 f1 f2 W (W'.drewN n) f0' f1' f2' := ⟨fun _ h1 h2 h3 h4 h => IsS96.drewN (k.out _ h1 h2 h3 h4 h) n⟩
instance IsS96.F.drew (g a b c d : Nat) (f0 : List Int) (f1 : Int) (f2 : Int) (W W' : World) (f0' : (List Int)) (f1' : (Int)) (f2' : (Int)) [k : IsS96.F g a b c d f0 f1 f2 W W' f0' f1' f2'] : IsS96.F g a b c d f0 f1 f2 W W'.drew f0' f1' f2' := ⟨fun _ h1 h2 h3 h4 h => IsS96.drew (k.out _ h1 h2 h3 h4 h)⟩
instance IsS96.F.set_1 (g a b c d : Nat) (f0 : List Int) (f1 : Int) (f2 : Int) (W W' : World) (f0' : (List Int)) (f1' : (Int)) (f2' : (Int)) (x : Int) [k : IsS96.F g a b c d f0 f1 f2 W W' f0' f1' f2'] : IsS96.F g a b c d f0 f1 f2 W (W'.setCell ⟨g, 1, none⟩ (.int .i64 x)) f0' x f2' := ⟨fun _ h1 h2 h3 h4 h => IsS96.set_1 (k.out _ h1 h2 h3 h4 h) x⟩
instance IsS96.F.set_2 (g a b c d : Nat) (f0 : List Int) (f1 : Int) (f2 : Int) (W W' : World) (f0' : (List Int)) (f1' : (Int)) (f2' : (Int)) (x : Int) [k : IsS96.F g a b c d f0 f1 f2 W W' f0' f1' f2'] : IsS96.F g a b c d f0 f1 f2 W (W'.setCell ⟨g, 2, none⟩ (.int .i64 x)) f0' f1' x := ⟨fun _ h1 h2 h3 h4 h => IsS96.set_2 (k.out _ h1 h2 h3 h4 h) x⟩
instance IsS96.F.fara (g a b c d : Nat) (f0 : List Int) (f1 : Int) (f2 : Int) (W W' : World) (f0' : (List Int)) (f1' : (Int)) (f2' : (Int)) (i : Nat) (u : Value) [k : IsS96.F g a b c d f0 f1 f2 W W' f0' f1' f2'] : IsS96.F g a b c d f0 f1 f2 W (W'.setCell ⟨a, i, none⟩ u) f0' f1' f2' := ⟨fun _ h1 h2 h3 h4 h => (k.out _ h1 h2 h3 h4 h).far h1 u⟩
instance IsS96.F.farb (g a b c d : Nat) (f0 : List Int) (f1 : Int) (f2 : Int) (W W' : World) (f0' : (List Int)) (f1' : (Int)) (f2' : (Int)) (i : Nat) (u : Value) [k : IsS96.F g a b c d f0 f1 f2 W W' f0' f1' f2'] : IsS96.F g a b c d f0 f1 f2 W (W'.setCell ⟨b, i, none⟩ u) f0' f1' f2' := ⟨fun _ h1 h2 h3 h4 h => (k.out _ h1 h2 h3 h4 h).far h2 u⟩
instance IsS96.F.farc (g a b c d : Nat) (f0 : List Int) (f1 : Int) (f2 : Int) (W W' : World) (f0' : (List Int)) (f1' : (Int)) (f2' : (Int)) (i : Nat) (u : Value) [k : IsS96.F g a b c d f0 f1 f2 W W' f0' f1' f2'] : IsS96.F g a b c d f0 f1 f2 W (W'.setCell ⟨c, i, none⟩ u) f0' f1' f2' := ⟨fun _ h1 h2 h3 h4 h => (k.out _ h1 h2 h3 h4 h).far h3 u⟩
instance IsS96.F.fard (g a b c d : Nat) (f0 : List Int) (f1 : Int) (f2 : Int) (W W' : World) (f0' : (List Int)) (f1' : (Int)) (f2' : (Int)) (i : Nat) (u : Value) [k : IsS96.F g a b c d f0 f1 f2 W W' f0' f1' f2'] : IsS96.F g a b c d f0 f1 f2 W (W'.setCell ⟨d, i, none⟩ u) f0' f1' f2' := ⟨fun _ h1 h2 h3 h4 h => (k.out _ h1 h2 h3 h4 h).far h4 u⟩
theorem IsS96.go1 {g a : Nat} {f0 : List Int} {f1 : Int} {f2 : Int} {W W' : World} {f0' : List Int} {f1' : Int} {f2' : Int} {w0 : World} (h1 : g ≠ a) (h : IsS96 w0 W g f0 f1 f2) [k : IsS96.F g a a a a f0 f1 f2 W W' f0' f1' f2'] : IsS96 w0 W' g f0' f1' f2' := k.out _ h1 h1 h1 h1 h
theorem IsS96.go2 {g a b : Nat} {f0 : List Int} {f1 : Int} {f2 : Int} {W W' : World} {f0' : List Int} {f1' : Int} {f2' : Int} {w0 : World} (h1 : g ≠ a) (h2 : g ≠ b) (h : IsS96 w0 W g f0 f1 f2) [k : IsS96.F g a b b b f0 f1 f2 W W' f0' f1' f2'] : IsS96 w0 W' g f0' f1' f2' := k.out _ h1 h2 h2 h2 h
theorem IsS96.go3 {g a b c : Nat} {f0 : List Int} {f1 : Int} {f2 : Int} {W W' : World} {f0' : List Int} {f1' : Int} {f2' : Int} {w0 : World} (h1 : g ≠ a) (h2 : g ≠ b) (h3 : g ≠ c) (h : IsS96 w0 W g f0 f1 f2) [k : IsS96.F g a b c c f0 f1 f2 W W' f0' f1' f2'] : IsS96 w0 W' g f0' f1' f2' := k.out _ h1 h2 h3 h3 h
theorem IsS96.go4 {g a b c d : Nat} {f0 : List Int} {f1 : Int} {f2 : Int} {W W' : World} {f0' : List Int} {f1' : Int} {f2' : Int} {w0 : World} (h1 : g ≠ a) (h2 : g ≠ b) (h3 : g ≠ c) (h4 : g ≠ d) (h : IsS96 w0 W g f0 f1 f2) [k : IsS96.F g a b c d f0 f1 f2 W W' f0' f1' f2'] : IsS96 w0 W' g f0' f1' f2' := k.out _ h1 h2 h3 h4 h

/-! ### octets_NewReader: function 36 -/
def octets_NewReader.f (l0 : List Int) : Option (List Int × Int × Int) := if l0.length < 140737488355328 then some (l0, 0, 0) else none
set_option maxHeartbeats 8000000 in
set_option maxRecDepth 100000 in
theorem octets_NewReader.calls (A0 : Option Addr) (c0 : Nat) (l0 : List Int) (r1 : List Int) (r2 : Int) (r3 : Int) (w0 w : World) (hB : Below w0.heap.size w0 w) (hr0 : Kd.C (Kd.int .u8) w A0 l0.length l0) (hc0 : l0.length ≤ c0) (h : octets_NewReader.f l0 = some (r1, r2, r3)) :
    Calls Try.prog 36 #[.slice A0 l0.length c0] w fun e w' => ∃ (w1 : World) (g_ : Nat), e = .returned (.pointer (some ⟨g_, 0, none⟩)) ∧ Below w.heap.size w w1 ∧ IsS96 w1 w' g_ r1 r2 r3 ∧ Below w1.heap.size w1 w' := by
  have HR0 := Aside0.mk hr0; have HC0 := Aside0.mk hc0; unfold octets_NewReader.f at h
  by_cases c2 : l0.length < 140737488355328
  case neg => rw [if_neg c2] at h; cases h
  rw [if_pos c2] at h; simp only [Option.some.injEq, Prod.mk.injEq] at h; obtain ⟨rfl, rfl, rfl⟩ := h; have LMc2 := Aside0.mk c2; clear hr0 hc0 c2 hB; have HB := Aside0.mk (Below.refl w.heap.size w); obtain ⟨y101, hy101⟩ : ∃ y_ : List Int, y_ = (([] : List Int)) := ⟨_, rfl⟩; have Ny101 := Aside0.mk hy101; clear hy101
  go_enter Try.func36, Try.ntmps36
  go_wp2_with (first | ((with_reducible refine gate_dst (N := 3) rfl ?_); refine Kd.R_lit (Kd.int .u8) _ 5 ?hg (N := 3) ?hd (xs := ([] : List Int)) (inner := []) (ok := fun _ => True) (okp := fun _ => True) ?hr ?hp (fun _ hk => hk) trivial (Below.refl _ _) (Nat.le_refl _) (by simp) ?_; (case hd => rfl); (case hg => rfl); (case hr => first | (go_simp; done) | (go_simp; rfl)); (case hp => exact (Reps.none _ _)); intro v102 w3 ho4 hb hg_ hnew_; clear hg_ hnew_; (first | rw [← Ny101.out] at ho4 | (simp only [Int.reduceToNat] at ho4; rw [← Ny101.out] at ho4)); have n0_ := Aside0.mk (Kd.R_lower ho4 (below_size (by repeat (first | (with_reducible first | exact HB.out | apply below_alloc | apply pw_below_drewN | apply below_drew1) | exact HB.out)))); have n1_ := Aside0.mk (below_step (by repeat (first | (with_reducible first | exact HB.out | apply below_alloc | apply pw_below_drewN | apply below_drew1) | exact HB.out)) hb); clear HB; have HO103 := n0_; have HB := n1_; clear n0_ n1_; clear hb ho4) | ((with_reducible refine gate_builtin (b := .append) (xs := #[.tmp 3, .tmp 4]) rfl ?_); at_builtin; refine Kd.R_append_rows (Kd.int .u8) (w0 := w) w.heap.size rfl (.tmp 3) (.tmp 4) 36 5 (.int .u8 0) 1 rfl Try.underlying36 info5 rfl (by decide) (by omega) v102 y101 l0 _ _ _ (fun _ => True) (fun _ => False) rfl rfl ?aO ?aR (fun _ _ h => h) (fun _ h => h.elim) ?aF ?aB ?aS ?aL ?_; (case aR => repeat (first | exact (Kd.C_below HR0.out HB.out) | (with_reducible refine Kd.C_alloc ?_ _) | (with_reducible refine Kd.C_drewN ?_ _) | (with_reducible refine Kd.C_drew ?_))); (case aB => exact (by repeat (first | (with_reducible first | exact HB.out | apply below_alloc | apply pw_below_drewN | apply below_drew1) | exact HB.out))); (case aF => exact (fun _ _ => trivial)); (case aO => exact (by exact Ext.nR HO103.out)); (case aS => exact (below_size (by repeat (first | (with_reducible first | exact HB.out | apply below_alloc | apply pw_below_drewN | apply below_drew1) | exact HB.out)))); (case aL => have := LMc2.out; have := Ny101.out; subst this; simp; omega); intro v105 w5 ho hb hg hat; rw [Ny101.out, List.nil_append] at ho; obtain ⟨A9, c9, e9⟩ := Kd.R_slice ho; subst e9; have n0_ := Aside0.mk (hb); have n1_ := Aside0.mk (ho); clear HB; clear HO103; have HB := n0_; have HO106 := n1_; clear n0_ n1_; clear ho hb hg hat))
  go_ret
  exact ⟨_, _, rfl, HB.out, IsS96.new _ _ A9 c9 l0 0 0 (Below.refl _ _) ⟨(Kd.R_reads' HO106.out).2.2, (Kd.R_reads' HO106.out).2.1⟩, below_alloc (Below.refl _ _) _⟩



/-! ### octets_Reader_End: function 38 -/
def octets_Reader_End.f (s0_0 : List Int) (s0_1 : Int) (s0_2 : Int) : Option (Int × Int × Int) := if s0_2 = 0 then (if s0_1 < (s0_0.length : Int) then (some (5, s0_1, s0_2)) else (some (0, s0_1, s0_2))) else (some (s0_2, s0_1, s0_2))
set_option maxHeartbeats 8000000 in
set_option maxRecDepth 100000 in
theorem octets_Reader_End.calls (g : Nat) (s0_0 : List Int) (s0_1 : Int) (s0_2 : Int) (r1 : Int) (r2 : Int) (r3 : Int) (w0 w : World) (hI : IsS96 w0 w g s0_0 s0_1 s0_2) (hB : Below w0.heap.size w0 w) (h : octets_Reader_End.f s0_0 s0_1 s0_2 = some (r1, r2, r3)) :
  Calls Try.prog 38 #[.pointer (some ⟨g, 0, none⟩)] w fun e w' => e = .returned (.int .i64 r1) ∧ IsS96 w0 w' g s0_0 r2 r3 ∧ Below w0.heap.size w0 w' ∧ KeepBut w w' g none := by
 have HI0 := Aside0.mk hI; have HK := Ext.a (KeepBut.refl w g none); have HL := Aside0.mk hB.size; clear hI; have HW0 := Aside0.mk hB.size; have HB := Aside0.mk hB; clear hB; have H := h; unfold octets_Reader_End.f at H; clear h
 by_cases c2 : s0_2 = 0
 case' _ =>
  rw [if_pos c2] at H; obtain ⟨c2b0, c2b1⟩ := Ext.eT c2; clear c2
  by_cases c3 : s0_1 < (s0_0.length : Int)
  case' _ =>
   rw [if_pos c3] at H; have c3b0 := decide_eq_true c3; clear c3
  rotate_left 1
  case' _ =>
   rw [if_neg c3] at H; have c3b0 := decide_eq_false c3; clear c3
 rotate_left 2
 case' _ =>
  rw [if_neg c2] at H; obtain ⟨c2b0, c2b1⟩ := Ext.eF c2
 all_goals (simp only [Option.some.injEq, Prod.mk.injEq] at H; obtain ⟨rfl, rfl, rfl⟩ := H; obtain ⟨q0_, q1_, q2_, q3_, q4_⟩ := HI0.out; have q5_ := cellS96_0 q2_; have q6_ := cellS96_1 q2_; have q7_ := cellS96_2 q2_; have q8_ := blk_frozen q2_ 1; have q9_ := blk_frozen q2_ 2; clear q2_ q3_; go_enter Try.func38, Try.ntmps38; go_wp2; (repeat (go_quiet (fail); try go_wp2)); go_ret; exact ⟨by first | rfl | (simp [errW_none, errW_some] <;> rfl) | (simp [*, errW_none, errW_some] <;> rfl), by exact IsS96.go HI0.out, by exact Ext.s1 (IsS96.ge HI0.out) HB.out, by exact Ext.k0 HK.out⟩)


/-! ### octets_Reader_over: function 64 -/
def octets_Reader_over.f (s0_0 : List Int) (s0_1 : Int) (s0_2 : Int) : Option (Bool × Int × Int) := some ((s0_2 != 0), s0_1, s0_2)
set_option maxHeartbeats 8000000 in
set_option maxRecDepth 100000 in
theorem octets_Reader_over.calls (g : Nat) (s0_0 : List Int) (s0_1 : Int) (s0_2 : Int) (r1 : Bool) (r2 : Int) (r3 : Int) (w0 w : World) (hI : IsS96 w0 w g s0_0 s0_1 s0_2) (hB : Below w0.heap.size w0 w) (h : octets_Reader_over.f s0_0 s0_1 s0_2 = some (r1, r2, r3)) :
  Calls Try.prog 64 #[.pointer (some ⟨g, 0, none⟩)] w fun e w' => e = .returned (.bool r1) ∧ IsS96 w0 w' g s0_0 r2 r3 ∧ Below w0.heap.size w0 w' ∧ KeepBut w w' g none := by
 have HI0 := Aside0.mk hI; have HK := Ext.a (KeepBut.refl w g none); have HL := Aside0.mk hB.size; clear hI; have HW0 := Aside0.mk hB.size; have HB := Aside0.mk hB; clear hB; have H := h; unfold octets_Reader_over.f at H; clear h; simp only [Option.some.injEq, Prod.mk.injEq] at H; obtain ⟨rfl, rfl, rfl⟩ := H; obtain ⟨ASz2_0, cSz2_0, HGz2, hgz2, HSz2_0⟩ := HI0.out; have hcz2_0 := cellS96_0 HGz2; have hcz2_1 := cellS96_1 HGz2; have hcz2_2 := cellS96_2 HGz2; have hfz2_1 := blk_frozen HGz2 1; have hfz2_2 := blk_frozen HGz2 2; clear HGz2 hgz2
 go_enter Try.func64, Try.ntmps64
 go_wp2
 go_ret
 exact ⟨by first | rfl | (simp [errW_none, errW_some] <;> rfl) | (simp [*, errW_none, errW_some] <;> rfl), by exact IsS96.go HI0.out, by exact Ext.s1 (IsS96.ge HI0.out) HB.out, by exact Ext.k0 HK.out⟩

end Go.Proofs.Ytlhjdmpclfhoeaa.PK
