-- Written by wip/printx.py, a program of this work over the kit's print, for this claim.
import Derived.Test.YtandeendeoempaaPMx0
import Derived.Test.YtandeendeoempaaPMx8
namespace Go.Proofs.Ytandeendeoempaa.PM
open Go.RowKit Go.Proofs.YtandeendeoempaaW.PrintWords Go.Proofs.YtandeendeoempaaW.PrintLast Go.Proofs.YtandeendeoempaaW.PrintMore
attribute [local go_sem] max2_int min2_int max_two min_two max_three min_three max_four min_four   -- for this text's walks alone
attribute [local go_sem] Ext.pick_u8 Ext.pick_u32 Ext.pick_u64
set_option linter.unusedVariables false
set_option linter.unusedSimpArgs false



/-! ### terrierref01_Same: function 16 -/
def terrierref01_Same.f (l0 : List Int) (l1 : List Int) : Option (Bool) := some ((strOfNums l0).toList == (strOfNums l1).toList)
set_option maxHeartbeats 8000000 in
set_option maxRecDepth 100000 in
theorem terrierref01_Same.calls (A0 : Option Addr) (c0 : Nat) (l0 : List Int) (A1 : Option Addr) (c1 : Nat) (l1 : List Int) (r : Bool) (w : World) (hr0 : Kd.C (Kd.int .u8) w A0 l0.length l0) (hc0 : l0.length ≤ c0) (hr1 : Kd.C (Kd.int .u8) w A1 l1.length l1) (hc1 : l1.length ≤ c1) (h : terrierref01_Same.f l0 l1 = some r) :
  Calls Try.prog 16 #[.slice A0 l0.length c0, .slice A1 l1.length c1] w fun e w' => e = .returned (.bool r) ∧ Drawn0 w w' := by
 have HR0 := Aside0.mk hr0; have HC0 := Aside0.mk hc0; clear hr0 hc0; have HR1 := Aside0.mk hr1; have HC1 := Aside0.mk hc1; clear hr1 hc1; have H := h; unfold terrierref01_Same.f at H; clear h; obtain rfl := Option.some.inj H; have hcv3 := Kd.C_string (P := Try.prog) (A := A0) (c := c0) Try.underlying25 Try.underlying5 Try.underlying9 HR0.out; have hcv4 := Kd.C_string (P := Try.prog) (A := A1) (c := c1) Try.underlying25 Try.underlying5 Try.underlying9 HR1.out
 go_enter Try.func16, Try.ntmps16
 go_wp2
 go_ret
 exact ⟨by first | rfl | (simp; done) | (simp [*]; done), by repeat (first | exact Drawn0.refl _ | apply Drawn0.step)⟩

/-- A state of type 89 at block g of W; what its slices lead to came in by w0. -/
def IsS89 (w0 W : World) (g : Nat) (f0 : List Int) (f1 : Int) (f2 : Int) : Prop := ∃ A0 c0, W.heap[g]? = some (.cells #[.slice A0 f0.length c0, .int .i64 f1, .int .i64 f2] 89 (0, 0)) ∧ w0.heap.size ≤ g ∧ (Kd.C (Kd.int .u8) w0 A0 f0.length f0 ∧ f0.length ≤ c0)
theorem IsS89.grown {w0 W : World} {g : Nat} {f0 : List Int} {f1 : Int} {f2 : Int} {W1 : World} {row : Option Nat} (h : IsS89 w0 W g f0 f1 f2) (hw : W.grownBy W1 row) (hne : some g ≠ row) : IsS89 w0 W1 g f0 f1 f2 := by
  obtain ⟨A0, c0, hb, hg, hr0⟩ := h
  exact ⟨A0, c0, blk_grown hb hw hne, hg, hr0⟩
theorem IsS89.own_neN {w0 W : World} {g : Nat} {f0 : List Int} {f1 : Int} {f2 : Int} {α : Type} {d : Kd α} {e : Nat} {base : Nat} {ok : Nat → Prop} {v : Value} {xs : List α} (h : IsS89 w0 W g f0 f1 f2) (ho : Kd.N d e W base ok v xs) (ht : e ≠ 89) : some g ≠ v.ownBlock := by
  obtain ⟨A0, c0, hb, hg, hr0⟩ := h
  exact Kd.N_ne ho hb ht
theorem IsS89.fresh {w0 W : World} {g : Nat} {f0 : List Int} {f1 : Int} {f2 : Int} (h : IsS89 w0 W g f0 f1 f2) : ∀ k, W.heap.size ≤ k → k ≠ g := by
  obtain ⟨A0, c0, hb, hg, hr0⟩ := h
  exact Kd.freshB hb
theorem IsS89.kept {w0 W : World} {g : Nat} {f0 : List Int} {f1 : Int} {f2 : Int} {W1 : World} {S : Nat → Prop} (h : IsS89 w0 W g f0 f1 f2) (hk : Kept W W1 S) (hne : ¬ S g) : IsS89 w0 W1 g f0 f1 f2 := by
  obtain ⟨A0, c0, hb, hg, hr0⟩ := h
  exact ⟨A0, c0, blk_kept hb hk hne, hg, hr0⟩
theorem IsS89.keepb {w0 W : World} {g : Nat} {f0 : List Int} {f1 : Int} {f2 : Int} {W1 : World} {gb : Nat} (h : IsS89 w0 W g f0 f1 f2) (hk : KeepBut W W1 gb none) (hne : g ≠ gb) : IsS89 w0 W1 g f0 f1 f2 := by
  obtain ⟨A0, c0, hb, hg, hr0⟩ := h
  exact ⟨A0, c0, KeepBut.blk hk hb hne (by simp), hg, hr0⟩
theorem IsS89.below {w0 W : World} {g : Nat} {f0 : List Int} {f1 : Int} {f2 : Int} {W1 : World} (h : IsS89 w0 W g f0 f1 f2) (hw : Below W.heap.size W W1) : IsS89 w0 W1 g f0 f1 f2 := h.grown (grown_of_below hw none) (by simp)
theorem IsS89.alloc {w0 W : World} {g : Nat} {f0 : List Int} {f1 : Int} {f2 : Int} (h : IsS89 w0 W g f0 f1 f2) (o : Obj) : IsS89 w0 (W.alloc o) g f0 f1 f2 := h.below (below_alloc (Below.refl _ _) o)
theorem IsS89.drewN {w0 W : World} {g : Nat} {f0 : List Int} {f1 : Int} {f2 : Int} (h : IsS89 w0 W g f0 f1 f2) (m : Nat) : IsS89 w0 (W.drewN m) g f0 f1 f2 := h
theorem IsS89.drew {w0 W : World} {g : Nat} {f0 : List Int} {f1 : Int} {f2 : Int} (h : IsS89 w0 W g f0 f1 f2) : IsS89 w0 W.drew g f0 f1 f2 := h
theorem IsS89.at_ {w0 W : World} {g : Nat} {f0 : List Int} {f1 : Int} {f2 : Int} {w' : World} {m : Nat} (hq : W.drewN m = w') (h : IsS89 w0 W g f0 f1 f2) : IsS89 w0 w' g f0 f1 f2 := by subst hq; exact IsS89.drewN h m
theorem IsS89.apart {w0 W : World} {g : Nat} {f0 : List Int} {f1 : Int} {f2 : Int} {α : Type} {d : Kd α} {e : Nat} {base : Nat} {ok : Nat → Prop} {v : Value} {xs : List α} (h : IsS89 w0 W g f0 f1 f2) (ho : d.R e W base ok v xs) (ht : ∀ q, q ∈ e :: d.E → q ≠ 89) : d.R e W base (fun k => ok k ∧ k ≠ g) v xs := by
  obtain ⟨A0, c0, hb, hg, hr0⟩ := h
  exact Kd.R_types ho hb ht
theorem IsS89.own_ne {w0 W : World} {g : Nat} {f0 : List Int} {f1 : Int} {f2 : Int} {α : Type} {d : Kd α} {e : Nat} {base : Nat} {ok : Nat → Prop} {v : Value} {xs : List α} (h : IsS89 w0 W g f0 f1 f2) (ho : d.R e W base ok v xs) (ht : e ≠ 89) : some g ≠ v.ownBlock := by
  obtain ⟨A0, c0, hb, hg, hr0⟩ := h
  exact Kd.R_ne ho hb ht
theorem IsS89.apartQ {w0 W : World} {g : Nat} {f0 : List Int} {f1 : Int} {f2 : Int} {α : Type} {d : Kd α} {e : Nat} {base : Nat} {ok : Nat → Prop} {v : Value} {xs : List α} (h : IsS89 w0 W g f0 f1 f2) (ho : d.Q e W base ok v xs) (ht : ∀ q, q ∈ e :: d.E → q ≠ 89) : d.Q e W base (fun k => ok k ∧ k ≠ g) v xs := by
  obtain ⟨A0, c0, hb, hg, hr0⟩ := h
  exact Kd.Q_types ho hb ht
theorem IsS89.own_neQ {w0 W : World} {g : Nat} {f0 : List Int} {f1 : Int} {f2 : Int} {α : Type} {d : Kd α} {e : Nat} {base : Nat} {ok : Nat → Prop} {v : Value} {xs : List α} (h : IsS89 w0 W g f0 f1 f2) (ho : d.Q e W base ok v xs) (ht : e ≠ 89) : some g ≠ v.ownBlock := by
  obtain ⟨A0, c0, hb, hg, hr0⟩ := h
  exact Kd.Q_ne ho hb ht
theorem IsS89.apartS {w0 W : World} {g : Nat} {f0 : List Int} {f1 : Int} {f2 : Int} {α : Type} {d : Kd α} {e : Nat} {base : Nat} {ok : Nat → Prop} {v : Value} {xs : List α} (h : IsS89 w0 W g f0 f1 f2) (ho : d.S e W base ok v xs) (ht : ∀ q, q ∈ e :: d.E → q ≠ 89) : d.S e W base (fun k => ok k ∧ k ≠ g) v xs := by
  obtain ⟨A0, c0, hb, hg, hr0⟩ := h
  exact Kd.S_types ho hb ht
theorem IsS89.own_neS {w0 W : World} {g : Nat} {f0 : List Int} {f1 : Int} {f2 : Int} {α : Type} {d : Kd α} {e : Nat} {base : Nat} {ok : Nat → Prop} {v : Value} {xs : List α} (h : IsS89 w0 W g f0 f1 f2) (ho : d.S e W base ok v xs) (ht : e ≠ 89) : some g ≠ v.ownBlock := by
  obtain ⟨A0, c0, hb, hg, hr0⟩ := h
  exact Kd.S_ne ho hb ht
theorem IsS89.lt {w0 W : World} {g : Nat} {f0 : List Int} {f1 : Int} {f2 : Int} (h : IsS89 w0 W g f0 f1 f2) : g < W.heap.size := by
  obtain ⟨A0, c0, hb, hg, hr0⟩ := h
  exact blk_lt hb
theorem IsS89.ge {w0 W : World} {g : Nat} {f0 : List Int} {f1 : Int} {f2 : Int} (h : IsS89 w0 W g f0 f1 f2) : w0.heap.size ≤ g := by
  obtain ⟨A0, c0, hb, hg, hr0⟩ := h
  exact hg
theorem IsS89.ne_blk {w0 W : World} {g : Nat} {f0 : List Int} {f1 : Int} {f2 : Int} {a : Nat} {cs : Array Value} {t : TypeId} {fr : Nat × Nat} (h : IsS89 w0 W g f0 f1 f2) (hb2 : W.heap[a]? = some (.cells cs t fr)) (ht : t ≠ 89) : g ≠ a := by
  obtain ⟨A0, c0, hb, hg, hr0⟩ := h; rintro rfl; rw [hb] at hb2
  injection hb2 with hb2
  injection hb2 with _ ht2
  exact ht ht2.symm
theorem IsS89.far {w0 W : World} {g : Nat} {f0 : List Int} {f1 : Int} {f2 : Int} {p : Addr} (h : IsS89 w0 W g f0 f1 f2) (hne : g ≠ p.block) (u : Value) : IsS89 w0 (W.setCell p u) g f0 f1 f2 := by
  obtain ⟨A0, c0, hb, hg, hr0⟩ := h
  exact ⟨A0, c0, blk_far hb hne u, hg, hr0⟩
theorem cellS89_0 {W : World} {g : Nat} {A0 : Option Addr} {c0 : Nat} {f0 : List Int} {f1 : Int} {f2 : Int} (h : W.heap[g]? = some (.cells #[.slice A0 f0.length c0, .int .i64 f1, .int .i64 f2] 89 (0, 0))) : W.cell? ⟨g, 0, none⟩ = some (.slice A0 f0.length c0) := (blk_cell h 0).trans rfl
theorem cellS89_1 {W : World} {g : Nat} {A0 : Option Addr} {c0 : Nat} {f0 : List Int} {f1 : Int} {f2 : Int} (h : W.heap[g]? = some (.cells #[.slice A0 f0.length c0, .int .i64 f1, .int .i64 f2] 89 (0, 0))) : W.cell? ⟨g, 1, none⟩ = some (.int .i64 f1) := (blk_cell h 1).trans rfl
theorem IsS89.set_1 {w0 W : World} {g : Nat} {f0 : List Int} {f1 : Int} {f2 : Int} (h : IsS89 w0 W g f0 f1 f2) (x : Int) : IsS89 w0 (W.setCell ⟨g, 1, none⟩ (.int .i64 x)) g f0 x f2 := by
  obtain ⟨A0, c0, hb, hg, hr0⟩ := h
  exact ⟨A0, c0, by simpa using blk_set hb 1 (.int .i64 x), hg, hr0⟩
theorem cellS89_2 {W : World} {g : Nat} {A0 : Option Addr} {c0 : Nat} {f0 : List Int} {f1 : Int} {f2 : Int} (h : W.heap[g]? = some (.cells #[.slice A0 f0.length c0, .int .i64 f1, .int .i64 f2] 89 (0, 0))) : W.cell? ⟨g, 2, none⟩ = some (.int .i64 f2) := (blk_cell h 2).trans rfl
theorem IsS89.set_2 {w0 W : World} {g : Nat} {f0 : List Int} {f1 : Int} {f2 : Int} (h : IsS89 w0 W g f0 f1 f2) (x : Int) : IsS89 w0 (W.setCell ⟨g, 2, none⟩ (.int .i64 x)) g f0 f1 x := by
  obtain ⟨A0, c0, hb, hg, hr0⟩ := h
  exact ⟨A0, c0, by simpa using blk_set hb 2 (.int .i64 x), hg, hr0⟩
theorem IsS89.new (w0 W : World) (A0 : Option Addr) (c0 : Nat) (f0 : List Int) (f1 : Int) (f2 : Int) (hB : Below w0.heap.size w0 W) (hr0 : Kd.C (Kd.int .u8) w0 A0 f0.length f0 ∧ f0.length ≤ c0) : IsS89 w0 (W.alloc (.cells #[.slice A0 f0.length c0, .int .i64 f1, .int .i64 f2] 89)) W.heap.size f0 f1 f2 := ⟨A0, c0, by simpa using heap_alloc_new W _, hB.size, hr0⟩
class IsS89.L (g : Nat) (f0 : List Int) (f1 : Int) (f2 : Int) (W W' : World) (f0' : outParam (List Int)) (f1' : outParam (Int)) (f2' : outParam (Int)) : Prop where
  out : ∀ w0 : World, IsS89 w0 W g f0 f1 f2 → IsS89 w0 W' g f0' f1' f2'
instance IsS89.L.refl (g : Nat) (f0 : List Int) (f1 : Int) (f2 : Int) (W : World) : IsS89.L g f0 f1 f2 W W f0 f1 f2 := ⟨fun _ h => h⟩
instance IsS89.L.alloc (g : Nat) (f0 : List Int) (f1 : Int) (f2 : Int) (W W' : World) (f0' : (List Int)) (f1' : (Int)) (f2' : (Int)) (o : Obj) [k : IsS89.L g f0 f1 f2 W W' f0' f1' f2'] : IsS89.L g f0 f1 f2 W (W'.alloc o) f0' f1' f2' := ⟨fun _ h => IsS89.alloc (k.out _ h) o⟩
instance IsS89.L.drewN (g : Nat) (f0 : List Int) (f1 : Int) (f2 : Int) (W W' : World) (f0' : (List Int)) (f1' : (Int)) (f2' : (Int)) (n : Nat) [k : IsS89.L g f0 f1 f2 W W' f0' f1' f2'] : IsS89.L g f0 f1 f2 W (W'.drewN n) f0' f1' f2' := ⟨fun _ h => IsS89.drewN (k.out _ h) n⟩
instance IsS89.L.drew (g : Nat) (f0 : List Int) (f1 : Int) (f2 : Int) (W W' : World) (f0' : (List Int)) (f1' : (Int)) (f2' : (Int)) [k : IsS89.L g f0 f1 f2 W W' f0' f1' f2'] : IsS89.L g f0 f1 f2 W W'.drew f0' f1' f2' := ⟨fun _ h => IsS89.drew (k.out _ h)⟩
instance IsS89.L.set_1 (g : Nat) (f0 : List Int) (f1 : Int) (f2 : Int) (W W' : World) (f0' : (List Int)) (f1' : (Int)) (f2' : (Int)) (x : Int) [k : IsS89.L g f0 f1 f2 W W' f0' f1' f2'] : IsS89.L g f0 f1 f2 W (W'.setCell ⟨g, 1, none⟩ (.int .i64 x)) f0' x f2' := ⟨fun _ h => IsS89.set_1 (k.out _ h) x⟩
instance IsS89.L.set_2 (g : Nat) (f0 : List Int) (f1 : Int) (f2 : Int) (W W' : World) (f0' : (List Int)) (f1' : (Int)) (f2' : (Int)) (x : Int) [k : IsS89.L g f0 f1 f2 W W' f0' f1' f2'] : IsS89.L g f0 f1 f2 W (W'.setCell ⟨g, 2, none⟩ (.int .i64 x)) f0' f1' x := ⟨fun _ h => IsS89.set_2 (k.out _ h) x⟩
theorem IsS89.go {g : Nat} {f0 : List Int} {f1 : Int} {f2 : Int} {W W' : World} {f0' : List Int} {f1' : Int} {f2' : Int} {w0 : World} (h : IsS89 w0 W g f0 f1 f2) [k : IsS89.L g f0 f1 f2 W W' f0' f1' f2'] : IsS89 w0 W' g f0' f1' f2' := k.out w0 h
class IsS89.F (g a b c d : Nat) (f0 : List Int) (f1 : Int) (f2 : Int) (W W' : World) (f0' : outParam (List Int)) (f1' : outParam (Int)) (f2' : outParam (Int)) : Prop where
  out : ∀ w0 : World, g ≠ a → g ≠ b → g ≠ c → g ≠ d → IsS89 w0 W g f0 f1 f2 → IsS89 w0 W' g f0' f1' f2'
instance IsS89.F.refl (g a b c d : Nat) (f0 : List Int) (f1 : Int) (f2 : Int) (W : World) : IsS89.F g a b c d f0 f1 f2 W W f0 f1 f2 := ⟨fun _ h1 h2 h3 h4 h => h⟩
instance IsS89.F.alloc (g a b c d : Nat) (f0 : List Int) (f1 : Int) (f2 : Int) (W W' : World) (f0' : (List Int)) (f1' : (Int)) (f2' : (Int)) (o : Obj) [k : IsS89.F g a b c d f0 f1 f2 W W' f0' f1' f2'] : IsS89.F g a b c d f0 f1 f2 W (W'.alloc o) f0' f1' f2' := ⟨fun _ h1 h2 h3 h4 h => IsS89.alloc (k.out _ h1 h2 h3 h4 h) o⟩
instance IsS89.F.drewN (g a b c d : Nat) (f0 : List Int) (f1 : Int) (f2 : Int) (W W' : World) (f0' : (List Int)) (f1' : (Int)) (f2' : (Int)) (n : Nat) [k : IsS89.F g a b c d f0 f1 f2 W W' f0' f1' f2'] : IsS89.F g a b c d f0 f1 f2 W (W'.drewN n) f0' f1' f2' := ⟨fun _ h1 h2 h3 h4 h => IsS89.drewN (k.out _ h1 h2 h3 h4 h) n⟩
instance IsS89.F.drew (g a b c d : Nat) (f0 : List Int) (f1 : Int) (f2 : Int) (W W' : World) (f0' : (List Int)) (f1' : (Int)) (f2' : (Int)) [k : IsS89.F g a b c d f0 f1 f2 W W' f0' f1' f2'] : IsS89.F g a b c d f0 f1 f2 W W'.drew f0' f1' f2' := ⟨fun _ h1 h2 h3 h4 h => IsS89.drew (k.out _ h1 h2 h3 h4 h)⟩
instance IsS89.F.set_1 (g a b c d : Nat) (f0 : List Int) (f1 : Int) (f2 : Int) (W W' : World) (f0' : (List Int)) (f1' : (Int)) (f2' : (Int)) (x : Int) [k : IsS89.F g a b c d f0 f1 f2 W W' f0' f1' f2'] : IsS89.F g a b c d f0 f1 f2 W (W'.setCell ⟨g, 1, none⟩ (.int .i64 x)) f0' x f2' := ⟨fun _ h1 h2 h3 h4 h => IsS89.set_1 (k.out _ h1 h2 h3 h4 h) x⟩
instance IsS89.F.set_2 (g a b c d : Nat) (f0 : List Int) (f1 : Int) (f2 : Int) (W W' : World) (f0' : (List Int)) (f1' : (Int)) (f2' : (Int)) (x : Int) [k : IsS89.F g a b c d f0 f1 f2 W W' f0' f1' f2'] : IsS89.F g a b c d f0 f1 f2 W (W'.setCell ⟨g, 2, none⟩ (.int .i64 x)) f0' f1' x := ⟨fun _ h1 h2 h3 h4 h => IsS89.set_2 (k.out _ h1 h2 h3 h4 h) x⟩
instance IsS89.F.fara (g a b c d : Nat) (f0 : List Int) (f1 : Int) (f2 : Int) (W W' : World) (f0' : (List Int)) (f1' : (Int)) (f2' : (Int)) (i : Nat) (u : Value) [k : IsS89.F g a b c d f0 f1 f2 W W' f0' f1' f2'] : IsS89.F g a b c d f0 f1 f2 W (W'.setCell ⟨a, i, none⟩ u) f0' f1' f2' := ⟨fun _ h1 h2 h3 h4 h => (k.out _ h1 h2 h3 h4 h).far h1 u⟩
instance IsS89.F.farb (g a b c d : Nat) (f0 : List Int) (f1 : Int) (f2 : Int) (W W' : World) (f0' : (List Int)) (f1' : (Int)) (f2' : (Int)) (i : Nat) (u : Value) [k : IsS89.F g a b c d f0 f1 f2 W W' f0' f1' f2'] : IsS89.F g a b c d f0 f1 f2 W (W'.setCell ⟨b, i, none⟩ u) f0' f1' f2' := ⟨fun _ h1 h2 h3 h4 h => (k.out _ h1 h2 h3 h4 h).far h2 u⟩
instance IsS89.F.farc (g a b c d : Nat) (f0 : List Int) (f1 : Int) (f2 : Int) (W W' : World) (f0' : (List Int)) (f1' : (Int)) (f2' : (Int)) (i : Nat) (u : Value) [k : IsS89.F g a b c d f0 f1 f2 W W' f0' f1' f2'] : IsS89.F g a b c d f0 f1 f2 W (W'.setCell ⟨c, i, none⟩ u) f0' f1' f2' := ⟨fun _ h1 h2 h3 h4 h => (k.out _ h1 h2 h3 h4 h).far h3 u⟩
instance IsS89.F.fard (g a b c d : Nat) (f0 : List Int) (f1 : Int) (f2 : Int) (W W' : World) (f0' : (List Int)) (f1' : (Int)) (f2' : (Int)) (i : Nat) (u : Value) [k : IsS89.F g a b c d f0 f1 f2 W W' f0' f1' f2'] : IsS89.F g a b c d f0 f1 f2 W (W'.setCell ⟨d, i, none⟩ u) f0' f1' f2' := ⟨fun _ h1 h2 h3 h4 h => (k.out _ h1 h2 h3 h4 h).far h4 u⟩
theorem IsS89.go1 {g a : Nat} {f0 : List Int} {f1 : Int} {f2 : Int} {W W' : World} {f0' : List Int} {f1' : Int} {f2' : Int} {w0 : World} (h1 : g ≠ a) (h : IsS89 w0 W g f0 f1 f2) [k : IsS89.F g a a a a f0 f1 f2 W W' f0' f1' f2'] : IsS89 w0 W' g f0' f1' f2' := k.out _ h1 h1 h1 h1 h
theorem IsS89.go2 {g a b : Nat} {f0 : List Int} {f1 : Int} {f2 : Int} {W W' : World} {f0' : List Int} {f1' : Int} {f2' : Int} {w0 : World} (h1 : g ≠ a) (h2 : g ≠ b) (h : IsS89 w0 W g f0 f1 f2) [k : IsS89.F g a b b b f0 f1 f2 W W' f0' f1' f2'] : IsS89 w0 W' g f0' f1' f2' := k.out _ h1 h2 h2 h2 h
theorem IsS89.go3 {g a b c : Nat} {f0 : List Int} {f1 : Int} {f2 : Int} {W W' : World} {f0' : List Int} {f1' : Int} {f2' : Int} {w0 : World} (h1 : g ≠ a) (h2 : g ≠ b) (h3 : g ≠ c) (h : IsS89 w0 W g f0 f1 f2) [k : IsS89.F g a b c c f0 f1 f2 W W' f0' f1' f2'] : IsS89 w0 W' g f0' f1' f2' := k.out _ h1 h2 h3 h3 h
theorem IsS89.go4 {g a b c d : Nat} {f0 : List Int} {f1 : Int} {f2 : Int} {W W' : World} {f0' : List Int} {f1' : Int} {f2' : Int} {w0 : World} (h1 : g ≠ a) (h2 : g ≠ b) (h3 : g ≠ c) (h4 : g ≠ d) (h : IsS89 w0 W g f0 f1 f2) [k : IsS89.F g a b c d f0 f1 f2 W W' f0' f1' f2'] : IsS89 w0 W' g f0' f1' f2' := k.out _ h1 h2 h3 h4 h

/-! ### octets_NewReader: function 36 -/
def octets_NewReader.f (l0 : List Int) : Option (List Int × Int × Int) := if l0.length < 140737488355328 then some (l0, 0, 0) else none
set_option maxHeartbeats 8000000 in
set_option maxRecDepth 100000 in
theorem octets_NewReader.calls (A0 : Option Addr) (c0 : Nat) (l0 : List Int) (r1 : List Int) (r2 : Int) (r3 : Int) (w0 w : World) (hB : Below w0.heap.size w0 w) (hr0 : Kd.C (Kd.int .u8) w A0 l0.length l0) (hc0 : l0.length ≤ c0) (h : octets_NewReader.f l0 = some (r1, r2, r3)) :
    Calls Try.prog 36 #[.slice A0 l0.length c0] w fun e w' => ∃ (w1 : World) (g_ : Nat), e = .returned (.pointer (some ⟨g_, 0, none⟩)) ∧ Below w.heap.size w w1 ∧ IsS89 w1 w' g_ r1 r2 r3 ∧ Below w1.heap.size w1 w' := by
  have HR0 := Aside0.mk hr0; have HC0 := Aside0.mk hc0; unfold octets_NewReader.f at h
  by_cases c2 : l0.length < 140737488355328
  case neg => rw [if_neg c2] at h; cases h
  rw [if_pos c2] at h; simp only [Option.some.injEq, Prod.mk.injEq] at h; obtain ⟨rfl, rfl, rfl⟩ := h; have LMc2 := Aside0.mk c2; clear hr0 hc0 c2 hB; have HB := Aside0.mk (Below.refl w.heap.size w); obtain ⟨y101, hy101⟩ : ∃ y_ : List Int, y_ = (([] : List Int)) := ⟨_, rfl⟩; have Ny101 := Aside0.mk hy101; clear hy101
  go_enter Try.func36, Try.ntmps36
  go_wp2_with (first | ((with_reducible refine gate_dst (N := 3) rfl ?_); refine Kd.R_lit (Kd.int .u8) _ 5 ?hg (N := 3) ?hd (xs := ([] : List Int)) (inner := []) (ok := fun _ => True) (okp := fun _ => True) ?hr ?hp (fun _ hk => hk) trivial (Below.refl _ _) (Nat.le_refl _) (by simp) ?_; (case hd => rfl); (case hg => rfl); (case hr => first | (go_simp; done) | (go_simp; rfl)); (case hp => exact (Reps.none _ _)); intro v102 w3 ho4 hb hg_ hnew_; clear hg_ hnew_; (first | rw [← Ny101.out] at ho4 | (simp only [Int.reduceToNat] at ho4; rw [← Ny101.out] at ho4)); have n0_ := Aside0.mk (Kd.R_lower ho4 (below_size (by repeat (first | (with_reducible first | exact HB.out | apply below_alloc | apply pw_below_drewN | apply below_drew1) | exact HB.out)))); have n1_ := Aside0.mk (below_step (by repeat (first | (with_reducible first | exact HB.out | apply below_alloc | apply pw_below_drewN | apply below_drew1) | exact HB.out)) hb); clear HB; have HO103 := n0_; have HB := n1_; clear n0_ n1_; clear hb ho4) | ((with_reducible refine gate_builtin (b := .append) (xs := #[.tmp 3, .tmp 4]) rfl ?_); at_builtin; refine Kd.R_append_rows (Kd.int .u8) (w0 := w) w.heap.size rfl (.tmp 3) (.tmp 4) 25 5 (.int .u8 0) 1 rfl Try.underlying25 info5 rfl (by decide) (by omega) v102 y101 l0 _ _ _ (fun _ => True) (fun _ => False) rfl rfl ?aO ?aR (fun _ _ h => h) (fun _ h => h.elim) ?aF ?aB ?aS ?aL ?_; (case aR => repeat (first | exact (Kd.C_below HR0.out HB.out) | (with_reducible refine Kd.C_alloc ?_ _) | (with_reducible refine Kd.C_drewN ?_ _) | (with_reducible refine Kd.C_drew ?_))); (case aB => exact (by repeat (first | (with_reducible first | exact HB.out | apply below_alloc | apply pw_below_drewN | apply below_drew1) | exact HB.out))); (case aF => exact (fun _ _ => trivial)); (case aO => exact (by exact Ext.nR HO103.out)); (case aS => exact (below_size (by repeat (first | (with_reducible first | exact HB.out | apply below_alloc | apply pw_below_drewN | apply below_drew1) | exact HB.out)))); (case aL => have := LMc2.out; have := Ny101.out; subst this; simp; omega); intro v105 w5 ho hb hg hat; rw [Ny101.out, List.nil_append] at ho; obtain ⟨A9, c9, e9⟩ := Kd.R_slice ho; subst e9; have n0_ := Aside0.mk (hb); have n1_ := Aside0.mk (ho); clear HB; clear HO103; have HB := n0_; have HO106 := n1_; clear n0_ n1_; clear ho hb hg hat))
  go_ret
  exact ⟨_, _, rfl, HB.out, IsS89.new _ _ A9 c9 l0 0 0 (Below.refl _ _) ⟨(Kd.R_reads' HO106.out).2.2, (Kd.R_reads' HO106.out).2.1⟩, below_alloc (Below.refl _ _) _⟩



/-! ### octets_Reader_over: function 48 -/
def octets_Reader_over.f (s0_0 : List Int) (s0_1 : Int) (s0_2 : Int) : Option (Bool × Int × Int) := some ((s0_2 != 0), s0_1, s0_2)
set_option maxHeartbeats 8000000 in
set_option maxRecDepth 100000 in
theorem octets_Reader_over.calls (g : Nat) (s0_0 : List Int) (s0_1 : Int) (s0_2 : Int) (r1 : Bool) (r2 : Int) (r3 : Int) (w0 w : World) (hI : IsS89 w0 w g s0_0 s0_1 s0_2) (hB : Below w0.heap.size w0 w) (h : octets_Reader_over.f s0_0 s0_1 s0_2 = some (r1, r2, r3)) :
  Calls Try.prog 48 #[.pointer (some ⟨g, 0, none⟩)] w fun e w' => e = .returned (.bool r1) ∧ IsS89 w0 w' g s0_0 r2 r3 ∧ Below w0.heap.size w0 w' ∧ KeepBut w w' g none := by
 have HI0 := Aside0.mk hI; have HK := Ext.a (KeepBut.refl w g none); have HL := Aside0.mk hB.size; clear hI; have HW0 := Aside0.mk hB.size; have HB := Aside0.mk hB; clear hB; have H := h; unfold octets_Reader_over.f at H; clear h; simp only [Option.some.injEq, Prod.mk.injEq] at H; obtain ⟨rfl, rfl, rfl⟩ := H; obtain ⟨ASz2_0, cSz2_0, HGz2, hgz2, HSz2_0⟩ := HI0.out; have hcz2_0 := cellS89_0 HGz2; have hcz2_1 := cellS89_1 HGz2; have hcz2_2 := cellS89_2 HGz2; have hfz2_1 := blk_frozen HGz2 1; have hfz2_2 := blk_frozen HGz2 2; clear HGz2 hgz2
 go_enter Try.func48, Try.ntmps48
 go_wp2
 go_ret
 exact ⟨by first | rfl | (simp [errW_none, errW_some] <;> rfl) | (simp [*, errW_none, errW_some] <;> rfl), by exact IsS89.go HI0.out, by exact Ext.s1 (IsS89.ge HI0.out) HB.out, by exact Ext.k0 HK.out⟩



/-! ### octets_Reader_Num: function 37 -/
def octets_Reader_Num.f (k : Nat) (s0_0 : List Int) (s0_1 : Int) (s0_2 : Int) (a1 : Int) : Option (Int × Int × Int) := (octets_Reader_over.f s0_0 s0_1 s0_2).bind fun bt284 => (if bt284.1 = true then (some (0, bt284.2.1, bt284.2.2)) else ((octets_Get.f k s0_0 bt284.2.1 a1).bind fun bt287 => (if bt287.2 = 0 then (some (bt287.1, wrap64 (bt284.2.1 + a1), bt287.2)) else (some (bt287.1, bt284.2.1, bt287.2)))))
theorem octets_Reader_Num.mono : ∀ a0 a1 a2 a3 k, LeO (octets_Reader_Num.f k a0 a1 a2 a3) (octets_Reader_Num.f (k + 1) a0 a1 a2 a3) := by
 intro a0 a1 a2 a3 k
 unfold octets_Reader_Num.f
 repeat' first
   | (with_reducible exact octets_Get.mono _ _ _ _)
   | (with_reducible exact LeO.refl _)
   | (with_reducible exact LeO.none _)
   | (with_reducible refine LeO.ite ?_ ?_)
   | (with_reducible refine LeO.bind ?_ (fun _ => ?_))
   | exact octets_Get.mono _ _ _ _
   | exact LeO.none _
   | refine LeO.ite ?_ ?_
   | refine LeO.bind ?_ (fun _ => ?_)
set_option maxHeartbeats 8000000 in
set_option maxRecDepth 100000 in
theorem octets_Reader_Num.calls (k : Nat) (g : Nat) (s0_0 : List Int) (s0_1 : Int) (s0_2 : Int) (a1 : Int) (r1 : Int) (r2 : Int) (r3 : Int) (w0 w : World) (hI : IsS89 w0 w g s0_0 s0_1 s0_2) (hB : Below w0.heap.size w0 w) (h : octets_Reader_Num.f k s0_0 s0_1 s0_2 a1 = some (r1, r2, r3)) :
  Calls Try.prog 37 #[.pointer (some ⟨g, 0, none⟩), .int .i64 a1] w fun e w' => e = .returned (.int .u64 r1) ∧ IsS89 w0 w' g s0_0 r2 r3 ∧ Below w0.heap.size w0 w' ∧ KeepBut w w' g none := by
 have HI0 := Aside0.mk hI; have HK := Ext.a (KeepBut.refl w g none); have HL := Aside0.mk hB.size; clear hI; have HW0 := Aside0.mk hB.size; have HB := Aside0.mk hB; clear hB; have H := h; unfold octets_Reader_Num.f at H; clear h; replace H := Option.bind_eq_some_iff.mp H; obtain ⟨⟨t284, t285, t286⟩, A30, H⟩ := H; (try dsimp only at H); have A3 := Aside0.mk A30; clear A30
 by_cases c4 : t284 = true
 ·
  subst c4; rw [if_pos rfl] at H; simp only [Option.some.injEq, Prod.mk.injEq] at H; obtain ⟨rfl, rfl, rfl⟩ := H
  go_enter Try.func37, Try.ntmps37
  go_wp2_with (first | (go_at_call 48; (with_reducible refine (octets_Reader_over.calls g s0_0 s0_1 s0_2 true t285 t286 w0 _ ?side1 ?side2 A3.out).mono ?_); (case side1 => exact IsS89.go HI0.out); (case side2 => exact Ext.s1 (IsS89.ge HI0.out) HB.out); rintro e w5 ⟨rfl, hi, hb, hk⟩; replace HK := Ext.a (KeepBut.trans (Ext.k0 HK.out) hk (.inl rfl)); replace HB := Ext.a (hb); replace HI0 := Ext.a (hi); (try clear hb hk hi)))
  repeat (go_quiet (first | (go_at_call 48; (with_reducible refine (octets_Reader_over.calls g s0_0 s0_1 s0_2 true t285 t286 w0 _ ?side1 ?side2 A3.out).mono ?_); (case side1 => exact IsS89.go HI0.out); (case side2 => exact Ext.s1 (IsS89.ge HI0.out) HB.out); rintro e w5 ⟨rfl, hi, hb, hk⟩; replace HK := Ext.a (KeepBut.trans (Ext.k0 HK.out) hk (.inl rfl)); replace HB := Ext.a (hb); replace HI0 := Ext.a (hi); (try clear hb hk hi))); try go_wp2_with (first | (go_at_call 48; (with_reducible refine (octets_Reader_over.calls g s0_0 s0_1 s0_2 true t285 t286 w0 _ ?side1 ?side2 A3.out).mono ?_); (case side1 => exact IsS89.go HI0.out); (case side2 => exact Ext.s1 (IsS89.ge HI0.out) HB.out); rintro e w5 ⟨rfl, hi, hb, hk⟩; replace HK := Ext.a (KeepBut.trans (Ext.k0 HK.out) hk (.inl rfl)); replace HB := Ext.a (hb); replace HI0 := Ext.a (hi); (try clear hb hk hi))))
  go_ret
  exact ⟨by first | rfl | (simp [errW_none, errW_some] <;> rfl) | (simp [*, errW_none, errW_some] <;> rfl), by exact IsS89.go HI0.out, by exact Ext.s1 (IsS89.ge HI0.out) HB.out, by exact Ext.k0 HK.out⟩
 ·
  replace c4 := Bool.eq_false_iff.mpr c4; subst c4; rw [if_neg Bool.false_ne_true] at H; replace H := Option.bind_eq_some_iff.mp H; obtain ⟨⟨t287, t288⟩, A60, H⟩ := H; (try dsimp only at H); have A6 := Aside0.mk A60; clear A60
  by_cases c7 : t288 = 0
  case' _ =>
   rw [if_pos c7] at H; obtain ⟨c7b0, c7b1⟩ := Ext.eT c7; clear c7
  rotate_left 1
  case' _ =>
   rw [if_neg c7] at H; obtain ⟨c7b0, c7b1⟩ := Ext.eF c7
  all_goals (simp only [Option.some.injEq, Prod.mk.injEq] at H; obtain ⟨rfl, rfl, rfl⟩ := H; go_enter Try.func37, Try.ntmps37; go_wp2_with (first | (go_at_call 48; (with_reducible refine (octets_Reader_over.calls g s0_0 s0_1 s0_2 false t285 t286 w0 _ ?side1 ?side2 A3.out).mono ?_); (case side1 => exact IsS89.go HI0.out); (case side2 => exact Ext.s1 (IsS89.ge HI0.out) HB.out); rintro e q0_ ⟨rfl, hi, hb, hk⟩; replace HK := Ext.a (KeepBut.trans (Ext.k0 HK.out) hk (.inl rfl)); replace HB := Ext.a (hb); replace HI0 := Ext.a (hi); (try clear hb hk hi); obtain ⟨q1_, q2_, q3_, q4_, q5_⟩ := HI0.out; have q6_ := cellS89_0 q3_; have q7_ := cellS89_1 q3_; have q8_ := cellS89_2 q3_; have q9_ := blk_frozen q3_ 1; have q10_ := blk_frozen q3_ 2; clear q3_ q4_) | (go_at_call 33; (with_reducible refine (octets_Get.calls k _ _ s0_0 t285 a1 t287 t288 _ ?side1 ?side2 A6.out).mono ?_); (case side1 => exact Kd.C_below q5_.1 (Ext.s1 (IsS89.ge HI0.out) HB.out)); (case side2 => exact q5_.2); rintro e w' ⟨rfl, ⟨nd, rfl⟩⟩; (try first | exact ⟨rfl, _, World.drewN_drewN _ _ _⟩ | exact ⟨rfl, _, Eq.trans (World.drewN_drewN _ _ _) (congrArg (World.drewN _) (Nat.add_assoc _ _ _))⟩))); (repeat (go_quiet (first | (go_at_call 48; (with_reducible refine (octets_Reader_over.calls g s0_0 s0_1 s0_2 false t285 t286 w0 _ ?side1 ?side2 A3.out).mono ?_); (case side1 => exact IsS89.go HI0.out); (case side2 => exact Ext.s1 (IsS89.ge HI0.out) HB.out); rintro e q0_ ⟨rfl, hi, hb, hk⟩; replace HK := Ext.a (KeepBut.trans (Ext.k0 HK.out) hk (.inl rfl)); replace HB := Ext.a (hb); replace HI0 := Ext.a (hi); (try clear hb hk hi); obtain ⟨q1_, q2_, q3_, q4_, q5_⟩ := HI0.out; have q6_ := cellS89_0 q3_; have q7_ := cellS89_1 q3_; have q8_ := cellS89_2 q3_; have q9_ := blk_frozen q3_ 1; have q10_ := blk_frozen q3_ 2; clear q3_ q4_) | (go_at_call 33; (with_reducible refine (octets_Get.calls k _ _ s0_0 t285 a1 t287 t288 _ ?side1 ?side2 A6.out).mono ?_); (case side1 => exact Kd.C_below q5_.1 (Ext.s1 (IsS89.ge HI0.out) HB.out)); (case side2 => exact q5_.2); rintro e w' ⟨rfl, ⟨nd, rfl⟩⟩; (try first | exact ⟨rfl, _, World.drewN_drewN _ _ _⟩ | exact ⟨rfl, _, Eq.trans (World.drewN_drewN _ _ _) (congrArg (World.drewN _) (Nat.add_assoc _ _ _))⟩))); try go_wp2_with (first | (go_at_call 48; (with_reducible refine (octets_Reader_over.calls g s0_0 s0_1 s0_2 false t285 t286 w0 _ ?side1 ?side2 A3.out).mono ?_); (case side1 => exact IsS89.go HI0.out); (case side2 => exact Ext.s1 (IsS89.ge HI0.out) HB.out); rintro e q0_ ⟨rfl, hi, hb, hk⟩; replace HK := Ext.a (KeepBut.trans (Ext.k0 HK.out) hk (.inl rfl)); replace HB := Ext.a (hb); replace HI0 := Ext.a (hi); (try clear hb hk hi); obtain ⟨q1_, q2_, q3_, q4_, q5_⟩ := HI0.out; have q6_ := cellS89_0 q3_; have q7_ := cellS89_1 q3_; have q8_ := cellS89_2 q3_; have q9_ := blk_frozen q3_ 1; have q10_ := blk_frozen q3_ 2; clear q3_ q4_) | (go_at_call 33; (with_reducible refine (octets_Get.calls k _ _ s0_0 t285 a1 t287 t288 _ ?side1 ?side2 A6.out).mono ?_); (case side1 => exact Kd.C_below q5_.1 (Ext.s1 (IsS89.ge HI0.out) HB.out)); (case side2 => exact q5_.2); rintro e w' ⟨rfl, ⟨nd, rfl⟩⟩; (try first | exact ⟨rfl, _, World.drewN_drewN _ _ _⟩ | exact ⟨rfl, _, Eq.trans (World.drewN_drewN _ _ _) (congrArg (World.drewN _) (Nat.add_assoc _ _ _))⟩))))); go_ret; exact ⟨by first | rfl | (simp [errW_none, errW_some] <;> rfl) | (simp [*, errW_none, errW_some] <;> rfl), by exact IsS89.go HI0.out, by exact Ext.s1 (IsS89.ge HI0.out) HB.out, by exact Ext.k0 HK.out⟩)
end Go.Proofs.Ytandeendeoempaa.PM
