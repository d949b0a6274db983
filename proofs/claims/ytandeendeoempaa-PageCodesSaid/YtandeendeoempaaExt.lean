/- What the model's entries and a few operations do at values that the kit's print tells: for the contracts that wip/supply.py lays. -/
import Derived.Laws.Externs
import Derived.Lib.BytesEntry
import Derived.Lib.SliceRun
import Derived.Laws.LoneSync
import Derived.Deep.MidRow
import Derived.Test.YtandeendeoempaaVGuard
import Derived.Test.YtandeendeoempaaVMore
namespace Go.Proofs.Ytandeendeoempaa.Ext
open Go.RowKit Go.Proofs.YtandeendeoempaaW.PrintWords Go.Proofs.YtandeendeoempaaW.PrintLast Go.Proofs.YtandeendeoempaaW.PrintMore
theorem run_bytesOf_C {P : Program} {w : World} {A : Option Addr} {n c : Nat} {xs : List Int} (h : (Kd.int .u8).C w A n xs) :
    (Extern.Bytes.bytesOf (.slice A n c)).run P w = .ok (strOfNums xs) w := by
  have hr : ReadsOf (Value.int .u8) (0 : Int) w A n xs := Kd.reads_of_C (enc := Value.int .u8) (d := (0 : Int)) (h1 := fun _ => rfl) h
  obtain ⟨hn, _, hc⟩ := hr
  rcases A with _ | ad
  · have h0 : n = 0 := by
      rcases Nat.eq_zero_or_pos n with h0 | h0
      · exact h0
      · obtain ⟨ad, h', _⟩ := hc h0
        cases h'
    subst h0
    obtain rfl : xs = [] := List.eq_nil_of_length_eq_zero hn
    rfl
  · have hl := Lib.run_loadBytesX (P := P) w xs ad .empty (fun j x hj => by
      have hjl : j < xs.length := (List.getElem?_eq_some_iff.1 hj).1
      obtain ⟨ad', he, hcell⟩ := hc (by omega)
      injection he with he
      subst he
      rw [hcell j (by omega), List.getD_eq_getElem?_getD, hj]
      rfl)
    rw [hn] at hl
    have e : (⟨ByteArray.empty.data ++ (Lib.bytesOf xs).toArray⟩ : ByteArray) = strOfNums xs := by
      apply ByteArray.ext
      show (#[] : Array UInt8) ++ (Lib.bytesOf xs).toArray = _
      simp [strOfNums, Lib.bytesOf]
    rw [← e]
    exact hl
theorem run_compare {P : Program} {w : World} {A A' : Option Addr} {n c n' c' : Nat} {xs ys : List Int} (h : (Kd.int .u8).C w A n xs) (h' : (Kd.int .u8).C w A' n' ys) :
    (Extern.BytealgCompare.compare #[.slice A n c, .slice A' n' c']).run P w = .ok (.int .i64 (Lib.compareBytes (strOfNums xs).data.toList (strOfNums ys).data.toList)) w := by
  change Sem.run P (do pure (goInt (Extern.BytealgCompare.cmp (← Extern.Bytes.bytesOf (.slice A n c)) (← Extern.Bytes.bytesOf (.slice A' n' c'))))) w = _
  simp only [Sem.run_bind, run_bytesOf_C h, run_bytesOf_C h', Sem.run_pure, Result.andThen]
  rw [Lib.cmp_eq]
  rfl
theorem pick_u8 : (if IntKind.u8.signed = true then (-1 : Int) else IntKind.u8.max) = 255 := by decide
theorem pick_u32 : (if IntKind.u32.signed = true then (-1 : Int) else IntKind.u32.max) = 4294967295 := by decide
theorem pick_u64 : (if IntKind.u64.signed = true then (-1 : Int) else IntKind.u64.max) = 18446744073709551615 := by decide
theorem conv_event {P : Program} {ops : Array Oper} {Q : Exit → Act → World → Prop} {rest : List Oper} {o : Oper} {a : Act} {W w0 : World} (hgd : o.guard = none) (t e : TypeId) (x : Operand) (ho : o.op = .convert t t x)
    (ht : P.underlying t = some (.slice e)) (he : P.underlying e = some (.int .u8)) {base B : Nat} {ok : Nat → Prop} {A : Option Addr} {n c : Nat} {xs : List Int} (hx : a.eval x = .slice A n c)
    (HO : (Kd.int .u8).R e W base ok (.slice A n c) xs) (hn : 0 < n) (HB : Below B w0 W) (hB : B ≤ base)
    (h : ∀ w1, Kd.F (Kd.int .u8) w1 ok A n xs → Below B w0 w1 → wpList P ops Q rest (a.put o.dst (.slice A n c)) w1) : wpList P ops Q (o :: rest) a W := by
  have hok := HO.1
  have how := Kd.own_of_R HO
  have hlen := (Kd.R_reads' HO).1
  rcases how.2 with ⟨hv, h0⟩ | ⟨g, cap, cur, hv, hb, hg, hle, hm, hs, htk⟩
  · injection hv with _ hv2 _
    omega
  · injection hv with h1 h2 h3
    subst h1
    have hgl : g < W.heap.size := blk_lt hg
    have hsh : W.shape? g = some (e, cur.size) := by
      unfold World.shape?
      rw [hg]
    refine Kd.event_run (w1 := W.freeze ⟨g, cur.size, none⟩ 1) (v := .slice (some ⟨g, 0, none⟩) n c) hgd ?_ (h _ ?_ ?_)
    · simp [execOp, ho, convert, hx, run_underlying ht, run_underlying he, markStringish, hsh]
    · intro W' hW'
      have hsz : (W.freeze ⟨g, cur.size, none⟩ 1).heap.size = W.heap.size := by simp [World.freeze]
      have hg' := hW' g (hok g rfl) (by rw [hsz]; exact hgl)
      have hgf : (W.freeze ⟨g, cur.size, none⟩ 1).heap[g]? = some (.cells cur e (cur.size, cur.size + 1)) := by
        simp [World.freeze, Array.getElem?_modify, hg]
      rw [hgf] at hg'
      have hxl : xs.length = n := hlen.symm
      refine ⟨hxl, by have : cap ≤ maxLen := hm; unfold maxLen at this; omega, fun _ => ⟨_, rfl, fun j p hj => ⟨[.int .u8 p], rfl, rfl, fun i u hu => ?_⟩⟩⟩
      obtain ⟨hjl, hp⟩ := List.getElem?_eq_some_iff.1 hj
      rcases i with _ | i
      · injection hu with hu
        subst hu
        show W'.cell? _ = _
        have e1 : cur[j]? = some (.int .u8 p) := by
          have h5 : (cur.toList.take (xs.length * 1))[j]? = (encs (Value.int .u8) xs)[j]? := by rw [htk]
          rw [List.getElem?_take, if_pos (by omega), Array.getElem?_toList] at h5
          rw [h5]
          simp [encs, hj]
        have e2 : W'.cell? ⟨g, j, none⟩ = cur[j]? := by simp [World.cell?, hg']
        have e3 : (⟨g, 0, none⟩ : Addr).add (j * 1 + 0) = ⟨g, j, none⟩ := by simp [Addr.add]; exact fun h => h.symm
        exact (congrArg W'.cell? e3).trans (e2.trans e1)
      · cases i <;> simp at hu
    · refine ⟨HB.os, HB.tape, HB.output, ?_, fun k hk => ?_⟩
      · have hsz : (W.freeze ⟨g, cur.size, none⟩ 1).heap.size = W.heap.size := by simp [World.freeze]
        rw [hsz]
        exact HB.size
      · have hne : g ≠ k := by omega
        rw [← HB.block k hk]
        simp [World.freeze, Array.getElem?_modify, hne]
theorem V_lit {P : Program} {ops : Array Oper} {Q : Exit → Act → World → Prop} {rest : List Oper} {o o2 : Oper} {a : Act} {W w0 : World} (t base e : Nat) (ht : P.underlying t = some (.slice e)) (he : P.underlying e = some (.int .u8))
    (hgd : o.guard = none) {N : Tmp} (_hd : o.dst = some N) (hgd2 : ∀ v, Region.wanted o2 (yielded ops (a.put o.dst v).tmps) = true) (ho2 : ∃ y, o2.op = .convert t t y ∧ ∀ v, (a.put o.dst v).eval y = v) {xs : List Int} {inner : List Value} {ok okp : Nat → Prop}
    (hrun : (execOp a.eval o).run P W = .ok (.value (.slice (some ⟨W.heap.size, 0, none⟩) xs.length xs.length)) (W.alloc (.cells inner.toArray e)))
    (hrep : Reps ((Kd.int .u8).M W base okp) (Kd.int .u8).sz xs inner) (hok : ∀ k, okp k → ok k) (hfresh : ok W.heap.size) (HB : Below base w0 W) (hbase : base ≤ W.heap.size) (hm : xs.length ≤ 9223372036854775807) (hpos : 0 < xs.length)
    (h : ∀ v1 w1, Kd.V (Kd.int .u8) e w1 base ok v1 xs → Below base w0 w1 → True → True → wpList P ops Q rest ((a.put o.dst v1).put o2.dst v1) w1) : wpList P ops Q (o :: o2 :: rest) a W := by
  obtain ⟨y, hop, hy⟩ := ho2
  refine Kd.R_lit (Kd.int .u8) base e hgd (N := N) _hd hrun hrep hok hfresh HB hbase hm ?_
  intro v1 w1 hR hB _ _
  obtain ⟨A, c, rfl⟩ := Kd.R_slice hR
  have hc := (Kd.R_reads' hR).2.1
  refine gate_guard (hgd2 _) ?_
  refine conv_event (o := { o2 with guard := none }) (base := base) (B := base) (w0 := w0) rfl t e y hop ht he (hy _) hR hpos hB (Nat.le_refl _) ?_
  intro w2 hF hB2
  exact h _ _ (Kd.V_mk hc hF) hB2 trivial trivial
class Later (w w' : World) : Prop where
  out : Below w.heap.size w w'
instance Later.refl (w : World) : Later w w := ⟨Below.refl _ _⟩
instance Later.alloc (w w' : World) (o : Obj) [h : Later w w'] : Later w (w'.alloc o) := ⟨below_alloc h.out o⟩
instance Later.drewN (w w' : World) (n : Nat) [h : Later w w'] : Later w (w'.drewN n) := ⟨pw_below_drewN h.out n⟩
instance Later.drew (w w' : World) [h : Later w w'] : Later w w'.drew := ⟨below_drew h.out⟩
section
variable {α : Type} {d : Kd α} {e : TypeId} {base n : Nat} {ok : Nat → Prop} {v : Value} {A : Option Addr} {xs : List α} {w w0 w' : World}
theorem nR [k : Later w w'] (h : Kd.R d e w base ok v xs) : Kd.R d e w' base ok v xs := Kd.R_below h k.out
theorem nV [k : Later w w'] (h : Kd.V d e w base ok v xs) : Kd.V d e w' base ok v xs := Kd.V_below h k.out
theorem nN [k : Later w w'] (h : Kd.N d e w base ok v xs) : Kd.N d e w' base ok v xs := Kd.N_below h k.out
theorem nC [k : Later w w'] (h : Kd.C d w A n xs) : Kd.C d w' A n xs := Kd.C_below h k.out
theorem nB [k : Later w w'] (h : Below w0.heap.size w0 w) : Below w0.heap.size w0 w' := below_step h k.out
end
theorem a {p : Prop} (h : p) : Aside0 p := ⟨h⟩
theorem sb {α : Type} (l : List α) (i : Nat) (a : α) : l.toArray.setIfInBounds i a = (l.set i a).toArray := by simp
theorem sz {α : Type} (x y : α) (l : List α) : (x :: l).set 0 y = y :: l := rfl
theorem ss {α : Type} (x y : α) (l : List α) (n : Nat) : (x :: l).set (n + 1) y = x :: l.set n y := rfl
class Sg (a b c d e f : Nat) (w w' : World) : Prop where
  out : ∀ w0 : World, w0.heap.size ≤ a → w0.heap.size ≤ b → w0.heap.size ≤ c → w0.heap.size ≤ d → w0.heap.size ≤ e → w0.heap.size ≤ f → Below w0.heap.size w0 w → Below w0.heap.size w0 w'
section
variable (a b c d e f : Nat) (w w' : World)
instance Sg.refl : Sg a b c d e f w w := ⟨fun _ _ _ _ _ _ _ h => h⟩
instance Sg.alloc (o : Obj) [k : Sg a b c d e f w w'] : Sg a b c d e f w (w'.alloc o) := ⟨fun _ h1 h2 h3 h4 h5 h6 h => below_alloc (k.out _ h1 h2 h3 h4 h5 h6 h) o⟩
instance Sg.drewN (n : Nat) [k : Sg a b c d e f w w'] : Sg a b c d e f w (w'.drewN n) := ⟨fun _ h1 h2 h3 h4 h5 h6 h => pw_below_drewN (k.out _ h1 h2 h3 h4 h5 h6 h) n⟩
instance Sg.drew [k : Sg a b c d e f w w'] : Sg a b c d e f w w'.drew := ⟨fun _ h1 h2 h3 h4 h5 h6 h => below_drew1 (k.out _ h1 h2 h3 h4 h5 h6 h)⟩
instance Sg.set6 (i : Nat) (u : Value) [k : Sg a b c d e f w w'] : Sg a b c d e f w (w'.setCell ⟨f, i, none⟩ u) := ⟨fun _ h1 h2 h3 h4 h5 h6 h => below_set (k.out _ h1 h2 h3 h4 h5 h6 h) h6⟩
instance Sg.set5 (i : Nat) (u : Value) [k : Sg a b c d e f w w'] : Sg a b c d e f w (w'.setCell ⟨e, i, none⟩ u) := ⟨fun _ h1 h2 h3 h4 h5 h6 h => below_set (k.out _ h1 h2 h3 h4 h5 h6 h) h5⟩
instance Sg.set4 (i : Nat) (u : Value) [k : Sg a b c d e f w w'] : Sg a b c d e f w (w'.setCell ⟨d, i, none⟩ u) := ⟨fun _ h1 h2 h3 h4 h5 h6 h => below_set (k.out _ h1 h2 h3 h4 h5 h6 h) h4⟩
instance Sg.set3 (i : Nat) (u : Value) [k : Sg a b c d e f w w'] : Sg a b c d e f w (w'.setCell ⟨c, i, none⟩ u) := ⟨fun _ h1 h2 h3 h4 h5 h6 h => below_set (k.out _ h1 h2 h3 h4 h5 h6 h) h3⟩
instance Sg.set2 (i : Nat) (u : Value) [k : Sg a b c d e f w w'] : Sg a b c d e f w (w'.setCell ⟨b, i, none⟩ u) := ⟨fun _ h1 h2 h3 h4 h5 h6 h => below_set (k.out _ h1 h2 h3 h4 h5 h6 h) h2⟩
instance Sg.set1 (i : Nat) (u : Value) [k : Sg a b c d e f w w'] : Sg a b c d e f w (w'.setCell ⟨a, i, none⟩ u) := ⟨fun _ h1 h2 h3 h4 h5 h6 h => below_set (k.out _ h1 h2 h3 h4 h5 h6 h) h1⟩
end
theorem s1 {a : Nat} {w0 w w' : World} (h1 : w0.heap.size ≤ a) (h : Below w0.heap.size w0 w) [k : Sg a a a a a a w w'] : Below w0.heap.size w0 w' := k.out _ h1 h1 h1 h1 h1 h1 h
theorem s2 {a b : Nat} {w0 w w' : World} (h1 : w0.heap.size ≤ a) (h2 : w0.heap.size ≤ b) (h : Below w0.heap.size w0 w) [k : Sg a b b b b b w w'] : Below w0.heap.size w0 w' := k.out _ h1 h2 h2 h2 h2 h2 h
theorem s3 {a b c : Nat} {w0 w w' : World} (h1 : w0.heap.size ≤ a) (h2 : w0.heap.size ≤ b) (h3 : w0.heap.size ≤ c) (h : Below w0.heap.size w0 w) [k : Sg a b c c c c w w'] : Below w0.heap.size w0 w' := k.out _ h1 h2 h3 h3 h3 h3 h
theorem s4 {a b c d : Nat} {w0 w w' : World} (h1 : w0.heap.size ≤ a) (h2 : w0.heap.size ≤ b) (h3 : w0.heap.size ≤ c) (h4 : w0.heap.size ≤ d) (h : Below w0.heap.size w0 w) [k : Sg a b c d d d w w'] : Below w0.heap.size w0 w' := k.out _ h1 h2 h3 h4 h4 h4 h
theorem s5 {a b c d e : Nat} {w0 w w' : World} (h1 : w0.heap.size ≤ a) (h2 : w0.heap.size ≤ b) (h3 : w0.heap.size ≤ c) (h4 : w0.heap.size ≤ d) (h5 : w0.heap.size ≤ e) (h : Below w0.heap.size w0 w) [k : Sg a b c d e e w w'] : Below w0.heap.size w0 w' := k.out _ h1 h2 h3 h4 h5 h5 h
theorem s6 {a b c d e f : Nat} {w0 w w' : World} (h1 : w0.heap.size ≤ a) (h2 : w0.heap.size ≤ b) (h3 : w0.heap.size ≤ c) (h4 : w0.heap.size ≤ d) (h5 : w0.heap.size ≤ e) (h6 : w0.heap.size ≤ f) (h : Below w0.heap.size w0 w) [k : Sg a b c d e f w w'] : Below w0.heap.size w0 w' := k.out _ h1 h2 h3 h4 h5 h6 h
class K0 (g : Nat) (w w' : World) : Prop where
  out : ∀ w0 : World, KeepBut w0 w g none → KeepBut w0 w' g none
section
variable (g : Nat) (w w' : World)
instance K0.refl : K0 g w w := ⟨fun _ h => h⟩
instance K0.alloc (o : Obj) [k : K0 g w w'] : K0 g w (w'.alloc o) := ⟨fun _ h => keep_alloc (k.out _ h) o⟩
instance K0.drewN (n : Nat) [k : K0 g w w'] : K0 g w (w'.drewN n) := ⟨fun _ h => keep_drewN (k.out _ h) n⟩
instance K0.drew [k : K0 g w w'] : K0 g w w'.drew := ⟨fun _ h => keep_drew (k.out _ h)⟩
instance K0.set (i : Nat) (u : Value) [k : K0 g w w'] : K0 g w (w'.setCell ⟨g, i, none⟩ u) := ⟨fun _ h => (k.out _ h).set_ i u⟩
end
theorem kC {α : Type} {d : Kd α} {n : Nat} {A : Option Addr} {xs : List α} {w0 w w' : World} (h : Kd.C d w0 A n xs) (hb : Below w0.heap.size w0 w) [k : Later w w'] : Kd.C d w' A n xs := Kd.C_below (Kd.C_below h hb) k.out
class Nl (p : Prop) : Prop where
  out : p
section
variable {α : Type} (d : Kd α) (e : TypeId) (w : World) (base : Nat) (ok : Nat → Prop)
instance : Nl (Kd.S d e w base ok (.slice none 0 0) []) := ⟨Kd.S_nil _ _ _ _ _⟩
instance : Nl (Kd.N d e w base ok (.slice none 0 0) []) := ⟨Kd.N_nil _ _ _ _ _⟩
instance : Nl (Kd.V d e w base ok (.slice none 0 0) []) := ⟨Kd.V_nil _ _ _ _ _⟩
instance : Nl (Kd.Q d e w base ok (.slice none 0 0) []) := ⟨Kd.Q_nil _ _ _ _ _⟩
instance : Nl (Kd.R d e w base ok (.slice none 0 0) []) := ⟨Kd.R_nil _ _ _ _ _⟩
end
theorem nl {p : Prop} [k : Nl p] : p := k.out
theorem cells4 {w : World} {g t : Nat} {z0 z1 z2 z3 : Value} (h : w.heap[g]? = some (.cells #[z0, z1, z2, z3] t (0, 0))) : w.cell? ⟨g, 0, none⟩ = some z0 ∧ w.cell? ⟨g, 1, none⟩ = some z1 ∧ w.cell? ⟨g, 2, none⟩ = some z2 ∧ w.cell? ⟨g, 3, none⟩ = some z3 := ⟨(blk_cell h 0).trans rfl, (blk_cell h 1).trans rfl, (blk_cell h 2).trans rfl, (blk_cell h 3).trans rfl⟩
theorem froz4 {w : World} {g t : Nat} {cs : Array Value} (h : w.heap[g]? = some (.cells cs t (0, 0))) : w.frozen? ⟨g, 0, none⟩ = false ∧ w.frozen? ⟨g, 1, none⟩ = false ∧ w.frozen? ⟨g, 2, none⟩ = false ∧ w.frozen? ⟨g, 3, none⟩ = false := ⟨blk_frozen h 0, blk_frozen h 1, blk_frozen h 2, blk_frozen h 3⟩
def ix3 (x : Int × Int × Int) (i : Int) : Int := if i = 0 then x.1 else if i = 1 then x.2.1 else x.2.2
def ix4 (x : Int × Int × Int × Int) (i : Int) : Int := if i = 0 then x.1 else if i = 1 then x.2.1 else if i = 2 then x.2.2.1 else x.2.2.2
theorem ix4_run {P : Program} {T e : TypeId} {z : Option Value} {b : Nat} {k : IntKind} (hu : P.underlying T = some (.array 4 e)) (he : P.underlying e = some (.int k)) (hi : (P.info? e).map (fun i => (i.zero, i.size, i.bytes)) = some (z, 1, b)) (x : Int × Int × Int × Int) (i : Int) (h0 : 0 ≤ i) (h1 : i < 4) (w : World) :
    Sem.run P (Instr.index T (.agg #[.int .i64 x.1, .int .i64 x.2.1, .int .i64 x.2.2.1, .int .i64 x.2.2.2]) (.int .i64 i)) w = .ok (.int .i64 (ix4 x i)) w := by
  obtain ⟨inf, hinf, hsz⟩ := Option.map_eq_some_iff.1 hi
  have hs : inf.size = 1 := by injection hsz with _ h; injection h
  have h3 : ([.int .i64 x.1, .int .i64 x.2.1, .int .i64 x.2.2.1, .int .i64 x.2.2.2] : List Value)[i.toNat]? = some (.int .i64 (ix4 x i)) := by
    have h : i = 0 ∨ i = 1 ∨ i = 2 ∨ i = 3 := by omega
    rcases h with rfl | rfl | rfl | rfl <;> rfl
  unfold Instr.index
  simp only [asIntOf, Sem.run_bind, Sem.run_pure, Result.andThen_ok, run_underlying hu]
  rw [if_pos ⟨h0, h1⟩]
  simp [part, isAgg, sizeOf, typeInfo, run_underlying he, Sem.run_bind, Sem.run_pure, hinf, hs, h3]
def Fr (w W : World) (g E : Nat) : Prop := w.heap.size ≤ W.heap.size ∧ ∀ (j : Nat) (cs : Array Value) (t : TypeId) (fr : Nat × Nat), w.heap[j]? = some (.cells cs t fr) → j ≠ g → t ≠ E → W.heap[j]? = some (.cells cs t fr)
theorem Fr.refl (w : World) (g E : Nat) : Fr w w g E := ⟨Nat.le_refl _, fun _ _ _ _ h _ _ => h⟩
section
variable {w W W1 : World} {g E : Nat}
theorem Fr.below (h : Fr w W g E) (hb : Below W.heap.size W W1) : Fr w W1 g E := ⟨Nat.le_trans h.1 hb.size, fun j cs t fr hj h1 h2 => by
  have h3 := h.2 j cs t fr hj h1 h2
  have hlt : j < W.heap.size := (Array.getElem?_eq_some_iff.1 h3).1
  rw [hb.block j hlt, h3]⟩
theorem Fr.of_below (hb : Below w.heap.size w W) (g E : Nat) : Fr w W g E := (Fr.refl w g E).below hb
theorem Fr.alloc (h : Fr w W g E) (o : Obj) : Fr w (W.alloc o) g E := h.below (below_alloc (Below.refl _ _) o)
theorem Fr.drewN (h : Fr w W g E) (n : Nat) : Fr w (W.drewN n) g E := h.below (pw_below_drewN (Below.refl _ _) n)
theorem Fr.drew (h : Fr w W g E) : Fr w W.drew g E := h.below (below_drew (Below.refl _ _))
theorem Fr.set_at (h : Fr w W g E) {a : Nat} (ha : ∀ j, j < w.heap.size → j ≠ g → j ≠ a) (i : Nat) (v : Value) : Fr w (W.setCell ⟨a, i, none⟩ v) g E := ⟨by have := h.1; simpa [World.setCell] using this, fun j cs t fr hj h1 h2 => by
  have hlt : j < w.heap.size := (Array.getElem?_eq_some_iff.1 hj).1
  rw [Below.heap_setCell _ _ _ _ (ha j hlt h1)]
  exact h.2 j cs t fr hj h1 h2⟩
theorem Fr.setg (h : Fr w W g E) (i : Nat) (v : Value) : Fr w (W.setCell ⟨g, i, none⟩ v) g E := h.set_at (fun _ _ h1 => h1) i v
theorem Fr.trans (h : Fr w W g E) (h' : Fr W W1 g E) : Fr w W1 g E := ⟨Nat.le_trans h.1 h'.1, fun j cs t fr hj h1 h2 => h'.2 j cs t fr (h.2 j cs t fr hj h1 h2) h1 h2⟩
theorem Fr.blk (h : Fr w W g E) {a : Nat} {cs : Array Value} {t : TypeId} {fr : Nat × Nat} (hb : w.heap[a]? = some (.cells cs t fr)) (hne : a ≠ g) (ht : t ≠ E) : W.heap[a]? = some (.cells cs t fr) := h.2 a cs t fr hb hne ht
theorem Fr.grown {base : Nat} {ok : Nat → Prop} {v : Value} {xs : List Int} (h : Fr w W g E) (ho : Kd.R (Kd.int .u8) E W base ok v xs) (hg : W.grownBy W1 v.ownBlock) : Fr w W1 g E := ⟨Nat.le_trans h.1 hg.size, fun j cs t fr hj h1 h2 => by
  have h3 := h.2 j cs t fr hj h1 h2
  have hlt : j < W.heap.size := (Array.getElem?_eq_some_iff.1 h3).1
  rw [hg.block j hlt, h3]
  intro e
  rcases (Kd.own_of_R ho).2 with ⟨hv, h0⟩ | ⟨g', cap, cur, hv, hb, hg', hle, hm, hs, htk⟩
  · rw [hv] at e; simp [Value.ownBlock] at e
  · rw [hv] at e
    have e' : j = g' := by simpa [Value.ownBlock] using e
    subst e'
    rw [h3] at hg'
    injection hg' with e1
    injection e1 with _ e2
    exact h2 e2⟩
end
def Typ (W : World) (a t : Nat) : Prop := ∃ cs : Array Value, W.heap[a]? = some (.cells cs t (0, 0))
section
variable {W : World} {a t : Nat}
theorem Typ.of {cs : Array Value} (h : W.heap[a]? = some (.cells cs t (0, 0))) : Typ W a t := ⟨cs, h⟩
theorem Typ.set (h : Typ W a t) (g i : Nat) (v : Value) : Typ (W.setCell ⟨g, i, none⟩ v) a t := by
  obtain ⟨cs, h⟩ := h
  by_cases e : a = g
  · subst e; exact ⟨_, blk_put h i v rfl⟩
  · exact ⟨cs, blk_far (p := ⟨g, i, none⟩) h e v⟩
theorem Typ.alloc (h : Typ W a t) (o : Obj) : Typ (W.alloc o) a t := by obtain ⟨cs, h⟩ := h; exact ⟨cs, blk_alloc h o⟩
theorem Typ.drewN (h : Typ W a t) (n : Nat) : Typ (W.drewN n) a t := by obtain ⟨cs, h⟩ := h; exact ⟨cs, h⟩
theorem Typ.drew (h : Typ W a t) : Typ W.drew a t := by obtain ⟨cs, h⟩ := h; exact ⟨cs, h⟩
end
class Ty (w w' : World) : Prop where
  out : ∀ (a : Nat) (t : TypeId), Typ w a t → Typ w' a t
instance Ty.refl (w : World) : Ty w w := ⟨fun _ _ h => h⟩
instance Ty.alloc (w w' : World) (o : Obj) [k : Ty w w'] : Ty w (w'.alloc o) := ⟨fun _ _ h => (k.out _ _ h).alloc o⟩
instance Ty.drewN (w w' : World) (n : Nat) [k : Ty w w'] : Ty w (w'.drewN n) := ⟨fun _ _ h => (k.out _ _ h).drewN n⟩
instance Ty.drew (w w' : World) [k : Ty w w'] : Ty w w'.drew := ⟨fun _ _ h => (k.out _ _ h).drew⟩
instance Ty.set (w w' : World) (b i : Nat) (u : Value) [k : Ty w w'] : Ty w (w'.setCell ⟨b, i, none⟩ u) := ⟨fun _ _ h => (k.out _ _ h).set b i u⟩
theorem ty {w w' : World} {a : Nat} {cs : Array Value} {t : TypeId} (h : w.heap[a]? = some (.cells cs t (0, 0))) [k : Ty w w'] : Typ w' a t := k.out _ _ (Typ.of h)
theorem setCells_at (g : Nat) (t : TypeId) : ∀ (us : List Value) (o : Nat) (W : World) (cs : Array Value), W.heap[g]? = some (.cells cs t (0, 0)) → o + us.length = cs.size → (W.setCells g o us).heap[g]? = some (.cells (cs.toList.take o ++ us).toArray t (0, 0))
  | [], o, W, cs, h, hl => by
    have e : (cs.toList.take o ++ ([] : List Value)).toArray = cs := by
      simp at hl
      simp [hl, List.take_of_length_le (Nat.le_of_eq (Array.length_toList : cs.toList.length = cs.size))]
    rw [e]
    exact h
  | u :: us, o, W, cs, h, hl => by
    simp only [List.length_cons] at hl
    have h1 := blk_put (cs' := cs.setIfInBounds o u) h o u rfl
    have h2 := setCells_at g t us (o + 1) (W.setCell ⟨g, o, none⟩ u) _ h1 (by simp; omega)
    have e : (cs.setIfInBounds o u).toList.take (o + 1) ++ us = cs.toList.take o ++ u :: us := by
      have ho : o < cs.toList.length := by simp; omega
      rw [Array.toList_setIfInBounds, List.take_add_one, List.getElem?_set_self ho, List.take_set_of_le (Nat.le_refl o)]
      simp
    rw [e] at h2
    exact h2
theorem setCells_keep (g : Nat) (us : List Value) (o : Nat) (W : World) : KeepBut W (W.setCells g o us) g none := by
  obtain ⟨s1, s2, s3, s4⟩ := setCells_same g us o W
  exact ⟨by rw [s4]; exact Nat.le_refl _, fun i _ hg _ => setCells_far us o i hg⟩
theorem struct_store {P : Program} {ops : Array Oper} {Q : Exit → Act → World → Prop} {rest : List Oper} {o : Oper} {a : Act} {W : World} (hgd : o.guard = none) (hN : o.dst = none) (t : TypeId) (p x : Operand) (ho : o.op = .store t p x) {g e : Nat} (cells : Array Value) {cur : Array Value}
    (haddr : a.eval p = .pointer (some ⟨g, 0, none⟩)) (hx : a.eval x = .agg cells) (hh : W.heap[g]? = some (.cells cur e (0, 0))) (hsz : cells.size = cur.size) (ht : (P.info? t).map (·.size) = some cells.size) (h1 : cells.toList.all (·.oneCell') = true)
    (h : ∀ w1, w1.heap[g]? = some (.cells cells e (0, 0)) → KeepBut W w1 g none → (∀ B w0, Below B w0 W → B ≤ g → Below B w0 w1) → wpList P ops Q rest a w1) : wpList P ops Q (o :: rest) a W := by
  have hrun := run_store_run (P := P) t (.agg cells) cells.toList hh rfl (by simpa using ht) (o := 0) (by simp; omega) (fun q hq => List.all_eq_true.1 h1 q hq)
  have hrun' : (execOp a.eval o).run P W = .ok .skip (W.setCells g 0 cells.toList) := by
    unfold execOp
    simp only [ho, haddr, hx, Sem.run_bind, hrun, Result.andThen_ok, Sem.run_pure]
  refine wpList_plain hgd fun K hK => ?_
  unfold Oper.wp
  rw [hrun']
  show K (a.put o.dst undef) _
  rw [hN]
  have hb := setCells_at g e cells.toList 0 W cur hh (by simp; omega)
  have hk := setCells_keep g cells.toList 0 W
  obtain ⟨s1, s2, s3, s4⟩ := setCells_same g cells.toList 0 W
  simp only [List.take_zero, List.nil_append, Array.toArray_toList] at hb
  exact hK _ _ (h _ hb hk (fun B w0 HB hB => HB.trans ⟨s1, s2, s3, by rw [s4]; exact Nat.le_refl _, fun k hk' => setCells_far cells.toList 0 k (by omega)⟩))
theorem alloc_event {P : Program} {ops : Array Oper} {Q : Exit → Act → World → Prop} {rest : List Oper} {o : Oper} {a : Act} {W : World} (hgd : o.guard = none) {N : Tmp} (_hd : o.dst = some N) {t : TypeId} (ho : o.op = .alloc t) {cells : Array Value} {n b : Nat} (hi : (P.info? t).map (fun i => (i.zero, i.size, i.bytes)) = some (some (.agg cells), n, b))
    (h : ∀ g, g = W.heap.size → ∀ w1, w1.heap[g]? = some (.cells cells t (0, 0)) → Below W.heap.size W w1 → wpList P ops Q rest (a.put o.dst (.pointer (some ⟨g, 0, none⟩))) w1) : wpList P ops Q (o :: rest) a W := by
  obtain ⟨i, hinf, e⟩ := Option.map_eq_some_iff.1 hi
  have hz : i.zero = some (.agg cells) := by injection e
  refine box_event hgd _hd (cs := cells) (t := t) ?_ h
  unfold execOp
  simp only [ho]
  simp [Instr.alloc, zeroValue, typeInfo, hinf, hz, newVar, newRow, Sem.run_bind, Value.cells]
def CellsAt (W : World) (B : Addr) : Nat → List Value → Prop
  | _, [] => True
  | j, u :: us => W.cell? (B.add j) = some u ∧ CellsAt W B (j + 1) us
theorem CellsAt.get {W : World} {B : Addr} : ∀ {us : List Value} {o : Nat}, CellsAt W B o us → ∀ j u, us[j]? = some u → W.cell? (B.add (o + j)) = some u
  | [], _, _, j, u, h => by simp at h
  | v :: us, o, hc, 0, u, h => by
    simp only [List.getElem?_cons_zero, Option.some.injEq] at h
    subst h
    exact hc.1
  | v :: us, o, hc, j + 1, u, h => by
    have := CellsAt.get hc.2 j u (by simpa using h)
    rwa [show o + 1 + j = o + (j + 1) by omega] at this
theorem struct_load {P : Program} {ops : Array Oper} {Q : Exit → Act → World → Prop} {rest : List Oper} {o : Oper} {a : Act} {W : World} (hgd : o.guard = none) (t : TypeId) (x : Operand) (ho : o.op = .load t x) {B : Addr} (cs : List Value) (haddr : a.eval x = .pointer (some B)) {d : TypeDesc}
    (hu : P.underlying t = some d) (hd : d.isRow = true) (hi : (P.info? t).map (·.size) = some cs.length) (hc : CellsAt W B 0 cs) (h : wpList P ops Q rest (a.put o.dst (.agg cs.toArray)) W) : wpList P ops Q (o :: rest) a W := by
  have hl : (loadCells B cs.length).run P W = .ok cs.toArray W := run_loadCells_list (P := P) W B cs (fun j v hv => by have := hc.get j v hv; rwa [Nat.zero_add] at this)
  have hv : (loadVar t B).run P W = .ok (.agg cs.toArray) W := by
    cases hq : P.info? t with
    | none => simp [hq] at hi
    | some i =>
      have hs : i.size = cs.length := by simpa [hq] using hi
      have hagg : (isAgg t).run P W = .ok true W := by
        unfold isAgg
        rw [Sem.run_bind, run_underlying hu W]
        cases d <;> simp_all [TypeDesc.isRow]
      simp [loadVar, Sem.run_bind, hagg, sizeOf, typeInfo, hq, hs, hl]
  have hrun : (execOp a.eval o).run P W = .ok (.value (.agg cs.toArray)) W := by
    unfold execOp
    simp only [ho, haddr, Instr.loadAt, Instr.sureAddr, Sem.run_bind, Sem.run_pure, Result.andThen_ok, hv]
  exact Kd.event_run hgd hrun h
theorem cellsAt_list {W : World} {g : Nat} : ∀ (us : List Value) (o : Nat), (∀ j u, us[j]? = some u → W.cell? ⟨g, o + j, none⟩ = some u) → CellsAt W ⟨g, 0, none⟩ o us
  | [], _, _ => trivial
  | u :: us, o, h => ⟨by have := h 0 u rfl; rwa [Addr.add_lit, Nat.zero_add], cellsAt_list us (o + 1) (fun j v hj => by have := h (j + 1) v (by simpa using hj); rwa [show o + 1 + j = o + (j + 1) by omega])⟩
theorem struct_load_blk {P : Program} {ops : Array Oper} {Q : Exit → Act → World → Prop} {rest : List Oper} {o : Oper} {a : Act} {W : World} (hgd : o.guard = none) (t : TypeId) (x : Operand) (ho : o.op = .load t x) {g e : Nat} {cells : Array Value} (haddr : a.eval x = .pointer (some ⟨g, 0, none⟩)) {d : TypeDesc}
    (hu : P.underlying t = some d) (hd : d.isRow = true) (hi : (P.info? t).map (·.size) = some cells.size) (hh : W.heap[g]? = some (.cells cells e (0, 0))) (h : wpList P ops Q rest (a.put o.dst (.agg cells)) W) : wpList P ops Q (o :: rest) a W := by
  refine struct_load hgd t x ho cells.toList haddr hu hd (by simpa using hi) (cellsAt_list cells.toList 0 (fun j u hj => ?_)) (by simpa using h)
  rw [Nat.zero_add, blk_cell hh]
  simpa using hj
theorem gw {a g m : Nat} (hg : g = m) (h : a ≤ m) : Aside0 (a ≤ g) := ⟨hg ▸ h⟩
theorem nt {a g m : Nat} (hg : g = m) (h : a < m) : Aside0 (a ≠ g) := ⟨hg ▸ Nat.ne_of_lt h⟩
theorem ng {a g m : Nat} (hg : g = m) (h : a < m) : Aside0 (g ≠ a) := ⟨hg ▸ Nat.ne_of_gt h⟩
theorem eT {α : Type} [BEq α] [LawfulBEq α] {a b : α} (h : a = b) : (a == b) = true ∧ (a != b) = false := ⟨beq_iff_eq.mpr h, bne_eq_false_iff_eq.mpr h⟩
theorem eF {α : Type} [BEq α] [LawfulBEq α] {a b : α} (h : ¬ a = b) : (a == b) = false ∧ (a != b) = true := ⟨beq_eq_false_iff_ne.mpr h, bne_iff_ne.mpr h⟩
theorem gs {P : Program} {ops : Array Oper} {Q : Exit → Act → World → Prop} {rest : List Oper} {oi : Oper} {a : Act} {w : World} (N : Option Tmp) (hd : oi.dst = N) (hg : oi.guard = none) {f : FuncId} {fn : Func} {as : Array Operand} {ts : Array TypeId} (hf : P.funcs[f]? = some fn) (args : Array Value)
    (hop : oi.op = .call { callee := .value (.func f), args := as, argTypes := ts }) (h : Calls P f args w fun e w' => ∃ v, e = .returned v ∧ wpList P ops Q rest (a.put N v) w')
    (hargs : as.map a.eval = args := by (try simp only [List.map_toArray, List.map_cons, List.map_nil]); first | done | rfl | (simp only [List.length_drop, List.length_take]; rfl))
    (hname : (fn.name == "runtime.NumGoroutine") = false := by kernel_rfl) (hb : fn.body.isSome = true := by rfl) : wpList P ops Q (oi :: rest) a w :=
  goesL_ N hd hg hf hname hb args hop hargs h
class Pb (g a b c : Nat) (cs : Array Value) (W W' : World) (cs' : outParam (Array Value)) : Prop where
  out : ∀ t : TypeId, g ≠ a → g ≠ b → g ≠ c → W.heap[g]? = some (.cells cs t (0, 0)) → W'.heap[g]? = some (.cells cs' t (0, 0))
section
variable {g a b c : Nat} {cs cs' : Array Value} {W W' : World}
instance Pb.refl : Pb g a b c cs W W cs := ⟨fun _ _ _ _ h => h⟩
instance Pb.alloc (o : Obj) [k : Pb g a b c cs W W' cs'] : Pb g a b c cs W (W'.alloc o) cs' := ⟨fun _ h1 h2 h3 h => blk_below (k.out _ h1 h2 h3 h) (below_alloc (Below.refl _ _) o)⟩
instance Pb.drewN (n : Nat) [k : Pb g a b c cs W W' cs'] : Pb g a b c cs W (W'.drewN n) cs' := ⟨fun _ h1 h2 h3 h => blk_below (k.out _ h1 h2 h3 h) (pw_below_drewN (Below.refl _ _) n)⟩
instance Pb.drew [k : Pb g a b c cs W W' cs'] : Pb g a b c cs W W'.drew cs' := ⟨fun _ h1 h2 h3 h => blk_below (k.out _ h1 h2 h3 h) (below_drew (Below.refl _ _))⟩
instance Pb.far3 (i : Nat) (u : Value) [k : Pb g a b c cs W W' cs'] : Pb g a b c cs W (W'.setCell ⟨c, i, none⟩ u) cs' := ⟨fun _ h1 h2 h3 h => blk_far (k.out _ h1 h2 h3 h) h3 u⟩
instance Pb.far2 (i : Nat) (u : Value) [k : Pb g a b c cs W W' cs'] : Pb g a b c cs W (W'.setCell ⟨b, i, none⟩ u) cs' := ⟨fun _ h1 h2 h3 h => blk_far (k.out _ h1 h2 h3 h) h2 u⟩
instance Pb.far1 (i : Nat) (u : Value) [k : Pb g a b c cs W W' cs'] : Pb g a b c cs W (W'.setCell ⟨a, i, none⟩ u) cs' := ⟨fun _ h1 h2 h3 h => blk_far (k.out _ h1 h2 h3 h) h1 u⟩
instance Pb.put (i : Nat) (u : Value) [k : Pb g a b c cs W W' cs'] : Pb g a b c cs W (W'.setCell ⟨g, i, none⟩ u) (cs'.setIfInBounds i u) := ⟨fun _ h1 h2 h3 h => blk_put (k.out _ h1 h2 h3 h) i u rfl⟩
theorem pb0 {t : TypeId} {cs2 : Array Value} (h : W.heap[g]? = some (.cells cs t (0, 0))) [k : Pb g (g + 1) (g + 1) (g + 1) cs W W' cs'] (e : cs' = cs2 := by first | (with_reducible rfl) | (simp only [List.setIfInBounds_toArray, List.set_cons_zero, List.set_cons_succ]; done) | rfl) : W'.heap[g]? = some (.cells cs2 t (0, 0)) := e ▸ k.out t (by omega) (by omega) (by omega) h
theorem pb1 {t : TypeId} {cs2 : Array Value} (ha : g ≠ a) (h : W.heap[g]? = some (.cells cs t (0, 0))) [k : Pb g a a a cs W W' cs'] (e : cs' = cs2 := by first | (with_reducible rfl) | (simp only [List.setIfInBounds_toArray, List.set_cons_zero, List.set_cons_succ]; done) | rfl) : W'.heap[g]? = some (.cells cs2 t (0, 0)) := e ▸ k.out t ha ha ha h
end
class Ff (g E : Nat) (W W' : World) : Prop where
  out : ∀ w : World, Fr w W g E → Fr w W' g E
section
variable {g E : Nat} {w W W' : World}
instance Ff.refl : Ff g E W W := ⟨fun _ h => h⟩
instance Ff.alloc (o : Obj) [k : Ff g E W W'] : Ff g E W (W'.alloc o) := ⟨fun _ h => (k.out _ h).alloc o⟩
instance Ff.drewN (n : Nat) [k : Ff g E W W'] : Ff g E W (W'.drewN n) := ⟨fun _ h => (k.out _ h).drewN n⟩
instance Ff.drew [k : Ff g E W W'] : Ff g E W W'.drew := ⟨fun _ h => (k.out _ h).drew⟩
instance Ff.set (i : Nat) (u : Value) [k : Ff g E W W'] : Ff g E W (W'.setCell ⟨g, i, none⟩ u) := ⟨fun _ h => (k.out _ h).setg i u⟩
theorem fr (h : Fr w W g E) [k : Ff g E W W'] : Fr w W' g E := k.out _ h
end
end Go.Proofs.Ytandeendeoempaa.Ext
