/- What the model's entries and a few operations do at values that the kit's print tells: for the contracts that wip/supply.py lays. -/
import Derived.Laws.Externs
import Derived.Lib.BytesEntry
import Derived.Lib.SliceRun
import Derived.Laws.LoneSync
import Derived.Deep.MidRow
import Derived.Test.YtdakdlgkhnjhoaaWGuard
import Derived.Test.YtdakdlgkhnjhoaaWMore
namespace Go.Proofs.Ytdakdlgkhnjhoaa.Ext
open Go.RowKit Go.Proofs.YtdakdlgkhnjhoaaW.PrintWords Go.Proofs.YtdakdlgkhnjhoaaW.PrintLast Go.Proofs.YtdakdlgkhnjhoaaW.PrintMore

theorem run_bytesOf_C {P : Program} {w : World} {A : Option Addr} {n c : Nat} {xs : List Int} (h : (Kd.int .u8).C w A n xs) :
    (Extern.Bytes.bytesOf (.slice A n c)).run P w = .ok (strOfNums xs) w := by
  have hr : ReadsOf (Value.int .u8) (0 : Int) w A n xs := Kd.reads_of_C (enc := Value.int .u8) (d := (0 : Int)) (h1 := fun _ => rfl) h
  obtain ⟨hn, _, hc⟩ := hr
  rcases A with _ | ad
  · have h0 : n = 0 := by
      rcases Nat.eq_zero_or_pos n with h0 | h0
      · exact h0
      · obtain ⟨ad, h', _⟩ := hc h0
        cases h'
    subst h0
    obtain rfl : xs = [] := List.eq_nil_of_length_eq_zero hn
    rfl
  · have hl := Lib.run_loadBytesX (P := P) w xs ad .empty (fun j x hj => by
      have hjl : j < xs.length := (List.getElem?_eq_some_iff.1 hj).1
      obtain ⟨ad', he, hcell⟩ := hc (by omega)
      injection he with he
      subst he
      rw [hcell j (by omega), List.getD_eq_getElem?_getD, hj]
      rfl)
    rw [hn] at hl
    have e : (⟨ByteArray.empty.data ++ (Lib.bytesOf xs).toArray⟩ : ByteArray) = strOfNums xs := by
      apply ByteArray.ext
      show (#[] : Array UInt8) ++ (Lib.bytesOf xs).toArray = _
      simp [strOfNums, Lib.bytesOf]
    rw [← e]
    exact hl

theorem run_compare {P : Program} {w : World} {A A' : Option Addr} {n c n' c' : Nat} {xs ys : List Int} (h : (Kd.int .u8).C w A n xs) (h' : (Kd.int .u8).C w A' n' ys) :
    (Extern.BytealgCompare.compare #[.slice A n c, .slice A' n' c']).run P w = .ok (.int .i64 (Lib.compareBytes (strOfNums xs).data.toList (strOfNums ys).data.toList)) w := by
  change Sem.run P (do pure (goInt (Extern.BytealgCompare.cmp (← Extern.Bytes.bytesOf (.slice A n c)) (← Extern.Bytes.bytesOf (.slice A' n' c'))))) w = _
  simp only [Sem.run_bind, run_bytesOf_C h, run_bytesOf_C h', Sem.run_pure, Result.andThen]
  rw [Lib.cmp_eq]
  rfl
theorem pick_u8 : (if IntKind.u8.signed = true then (-1 : Int) else IntKind.u8.max) = 255 := by decide
theorem pick_u32 : (if IntKind.u32.signed = true then (-1 : Int) else IntKind.u32.max) = 4294967295 := by decide
theorem pick_u64 : (if IntKind.u64.signed = true then (-1 : Int) else IntKind.u64.max) = 18446744073709551615 := by decide
theorem conv_event {P : Program} {ops : Array Oper} {Q : Exit → Act → World → Prop} {rest : List Oper} {o : Oper} {a : Act} {W w0 : World} (hgd : o.guard = none) (t e : TypeId) (x : Operand) (ho : o.op = .convert t t x)
    (ht : P.underlying t = some (.slice e)) (he : P.underlying e = some (.int .u8)) {base B : Nat} {ok : Nat → Prop} {A : Option Addr} {n c : Nat} {xs : List Int} (hx : a.eval x = .slice A n c)
    (HO : (Kd.int .u8).R e W base ok (.slice A n c) xs) (hn : 0 < n) (HB : Below B w0 W) (hB : B ≤ base)
    (h : ∀ w1, Kd.F (Kd.int .u8) w1 ok A n xs → Below B w0 w1 → wpList P ops Q rest (a.put o.dst (.slice A n c)) w1) : wpList P ops Q (o :: rest) a W := by
  have hok := HO.1
  have how := Kd.own_of_R HO
  have hlen := (Kd.R_reads' HO).1
  rcases how.2 with ⟨hv, h0⟩ | ⟨g, cap, cur, hv, hb, hg, hle, hm, hs, htk⟩
  · injection hv with _ hv2 _
    omega
  · injection hv with h1 h2 h3
    subst h1
    have hgl : g < W.heap.size := blk_lt hg
    have hsh : W.shape? g = some (e, cur.size) := by
      unfold World.shape?
      rw [hg]
    refine Kd.event_run (w1 := W.freeze ⟨g, cur.size, none⟩ 1) (v := .slice (some ⟨g, 0, none⟩) n c) hgd ?_ (h _ ?_ ?_)
    · simp [execOp, ho, convert, hx, run_underlying ht, run_underlying he, markStringish, hsh]
    · intro W' hW'
      have hsz : (W.freeze ⟨g, cur.size, none⟩ 1).heap.size = W.heap.size := by simp [World.freeze]
      have hg' := hW' g (hok g rfl) (by rw [hsz]; exact hgl)
      have hgf : (W.freeze ⟨g, cur.size, none⟩ 1).heap[g]? = some (.cells cur e (cur.size, cur.size + 1)) := by
        simp [World.freeze, Array.getElem?_modify, hg]
      rw [hgf] at hg'
      have hxl : xs.length = n := hlen.symm
      refine ⟨hxl, by have : cap ≤ maxLen := hm; unfold maxLen at this; omega, fun _ => ⟨_, rfl, fun j p hj => ⟨[.int .u8 p], rfl, rfl, fun i u hu => ?_⟩⟩⟩
      obtain ⟨hjl, hp⟩ := List.getElem?_eq_some_iff.1 hj
      rcases i with _ | i
      · injection hu with hu
        subst hu
        show W'.cell? _ = _
        have e1 : cur[j]? = some (.int .u8 p) := by
          have h5 : (cur.toList.take (xs.length * 1))[j]? = (encs (Value.int .u8) xs)[j]? := by rw [htk]
          rw [List.getElem?_take, if_pos (by omega), Array.getElem?_toList] at h5
          rw [h5]
          simp [encs, hj]
        have e2 : W'.cell? ⟨g, j, none⟩ = cur[j]? := by simp [World.cell?, hg']
        have e3 : (⟨g, 0, none⟩ : Addr).add (j * 1 + 0) = ⟨g, j, none⟩ := by simp [Addr.add]; exact fun h => h.symm
        exact (congrArg W'.cell? e3).trans (e2.trans e1)
      · cases i <;> simp at hu
    · refine ⟨HB.os, HB.tape, HB.output, ?_, fun k hk => ?_⟩
      · have hsz : (W.freeze ⟨g, cur.size, none⟩ 1).heap.size = W.heap.size := by simp [World.freeze]
        rw [hsz]
        exact HB.size
      · have hne : g ≠ k := by omega
        rw [← HB.block k hk]
        simp [World.freeze, Array.getElem?_modify, hne]
/-- '[]byte("..")' of a constant: the literal, and its conversion to its own type: what it leaves is told as shared. -/
theorem V_lit {P : Program} {ops : Array Oper} {Q : Exit → Act → World → Prop} {rest : List Oper} {o o2 : Oper} {a : Act} {W w0 : World} (t base e : Nat) (ht : P.underlying t = some (.slice e)) (he : P.underlying e = some (.int .u8))
    (hgd : o.guard = none) {N : Tmp} (_hd : o.dst = some N) (hgd2 : ∀ v, Region.wanted o2 (yielded ops (a.put o.dst v).tmps) = true) (ho2 : ∃ y, o2.op = .convert t t y ∧ ∀ v, (a.put o.dst v).eval y = v) {xs : List Int} {inner : List Value} {ok okp : Nat → Prop}
    (hrun : (execOp a.eval o).run P W = .ok (.value (.slice (some ⟨W.heap.size, 0, none⟩) xs.length xs.length)) (W.alloc (.cells inner.toArray e)))
    (hrep : Reps ((Kd.int .u8).M W base okp) (Kd.int .u8).sz xs inner) (hok : ∀ k, okp k → ok k) (hfresh : ok W.heap.size) (HB : Below base w0 W) (hbase : base ≤ W.heap.size) (hm : xs.length ≤ 9223372036854775807) (hpos : 0 < xs.length)
    (h : ∀ v1 w1, Kd.V (Kd.int .u8) e w1 base ok v1 xs → Below base w0 w1 → True → True → wpList P ops Q rest ((a.put o.dst v1).put o2.dst v1) w1) : wpList P ops Q (o :: o2 :: rest) a W := by
  obtain ⟨y, hop, hy⟩ := ho2
  refine Kd.R_lit (Kd.int .u8) base e hgd (N := N) _hd hrun hrep hok hfresh HB hbase hm ?_
  intro v1 w1 hR hB _ _
  obtain ⟨A, c, rfl⟩ := Kd.R_slice hR
  have hc := (Kd.R_reads' hR).2.1
  refine gate_guard (hgd2 _) ?_
  refine conv_event (o := { o2 with guard := none }) (base := base) (B := base) (w0 := w0) rfl t e y hop ht he (hy _) hR hpos hB (Nat.le_refl _) ?_
  intro w2 hF hB2
  exact h _ _ (Kd.V_mk hc hF) hB2 trivial trivial
/-- A call of a function that stands in a variable, in a region that draws. -/
theorem goesV_ {P : Program} {ops : Array Oper} {Q : Exit → Act → World → Prop} {oi : Oper} {N : Option Tmp} {a : Act} {w : World} {K : Act → World → Prop} {f : FuncId} {fn : Func} {as : Array Operand} {ts : Array TypeId} {x : Operand} (hf : P.funcs[f]? = some fn) (hname : (fn.name == "runtime.NumGoroutine") = false) (hb : fn.body.isSome = true) (args : Array Value)
    (hw : Region.wanted oi (yielded ops a.tmps) = true) (hN : oi.dst = N) (hop : oi.op = .call { callee := .value x, args := as, argTypes := ts }) (hargs : as.map a.eval = args)
    (h : Calls P f args w fun e w' => ∃ v, e = .returned v ∧ K (a.put N v) w') (hx : a.eval x = .func (.func f) #[] #[] := by rfl) : if Region.wanted oi (yielded ops a.tmps) = true then Oper.wp P oi a w K Q else K (a.put N undef) w := by
  refine call_ f args hw hN ?_ h
  have he := enters_ hf hname hb args w
  unfold execOp
  simp [hop, resolve, hx, Deferred.ofValue, invoke, hargs, he]
/-- 'xs[:j:j]'. -/
theorem cut_to3 {P : Program} (t e : TypeId) (kh : IntKind) {i : TypeInfo} (ht : P.underlying t = some (.slice e)) (hi : P.info? e = some i) (A : Option Addr) (n c : Nat) (j : Int) (h0 : 0 ≤ j) (hm : j ≤ n) (hc : n ≤ c) :
    ∀ W : World, (Instr.slice t (.slice A n c) none (some (.int kh j)) (some (.int kh j))).run P W = .ok (.slice A j.toNat j.toNat) W := by
  intro W
  have hel : P.elem t = e := by simp [Program.elem, ht]
  have hu : P.underlying t = some (.slice (P.elem t)) := by rw [hel]; exact ht
  have ha : (A.map fun x => x.add 0) = A := by cases A <;> simp [Addr.add]
  rw [run_slice_hm W t A n c hu kh kh j j h0 (Int.le_refl _) (by omega), hel]
  simp [sizeOf, typeInfo, hi, sliced, Result.andThen, ha]
/-! what was told of an earlier world holds of one that stands some plain steps behind it -/
class Later (w w' : World) : Prop where
  out : Below w.heap.size w w'
instance Later.refl (w : World) : Later w w := ⟨Below.refl _ _⟩
instance Later.alloc (w w' : World) (o : Obj) [h : Later w w'] : Later w (w'.alloc o) := ⟨below_alloc h.out o⟩
instance Later.drewN (w w' : World) (n : Nat) [h : Later w w'] : Later w (w'.drewN n) := ⟨pw_below_drewN h.out n⟩
instance Later.drew (w w' : World) [h : Later w w'] : Later w w'.drew := ⟨below_drew h.out⟩
section
variable {α : Type} {d : Kd α} {e : TypeId} {base n : Nat} {ok : Nat → Prop} {v : Value} {A : Option Addr} {xs : List α} {w w0 w' : World}
theorem nR [k : Later w w'] (h : Kd.R d e w base ok v xs) : Kd.R d e w' base ok v xs := Kd.R_below h k.out
theorem nV [k : Later w w'] (h : Kd.V d e w base ok v xs) : Kd.V d e w' base ok v xs := Kd.V_below h k.out
theorem nN [k : Later w w'] (h : Kd.N d e w base ok v xs) : Kd.N d e w' base ok v xs := Kd.N_below h k.out
theorem nS [k : Later w w'] (h : Kd.S d e w base ok v xs) : Kd.S d e w' base ok v xs := Kd.S_below h k.out
theorem nQ [k : Later w w'] (h : Kd.Q d e w base ok v xs) : Kd.Q d e w' base ok v xs := Kd.Q_below h k.out
theorem nC [k : Later w w'] (h : Kd.C d w A n xs) : Kd.C d w' A n xs := Kd.C_below h k.out
theorem nB [k : Later w w'] (h : Below w0.heap.size w0 w) : Below w0.heap.size w0 w' := below_step h k.out
end
theorem a {p : Prop} (h : p) : Aside0 p := ⟨h⟩
theorem sb {α : Type} (l : List α) (i : Nat) (a : α) : l.toArray.setIfInBounds i a = (l.set i a).toArray := by simp
theorem sz {α : Type} (x y : α) (l : List α) : (x :: l).set 0 y = y :: l := rfl
theorem ss {α : Type} (x y : α) (l : List α) (n : Nat) : (x :: l).set (n + 1) y = x :: l.set n y := rfl
theorem ba {w W : World} (h : Below w.heap.size w W) (o : Obj) : Below w.heap.size w (W.alloc o) := below_alloc h o
theorem bn {B : Nat} {w W : World} (h : Below B w W) (n : Nat) : Below B w (W.drewN n) := pw_below_drewN h n
theorem bd {base : Nat} {w W : World} (h : Below base w W) : Below base w W.drew := below_drew1 h
theorem bs {w W : World} {g j : Nat} {v : Value} (h : Below w.heap.size w W) (hg : w.heap.size ≤ g) : Below w.heap.size w (W.setCell ⟨g, j, none⟩ v) := below_set h hg
/-! plain steps and stores into told blocks: what held holds behind them (instances in place of searches) -/
class Sg (a b c d e f : Nat) (w w' : World) : Prop where
  out : ∀ w0 : World, w0.heap.size ≤ a → w0.heap.size ≤ b → w0.heap.size ≤ c → w0.heap.size ≤ d → w0.heap.size ≤ e → w0.heap.size ≤ f → Below w0.heap.size w0 w → Below w0.heap.size w0 w'
section
variable (a b c d e f : Nat) (w w' : World)
instance Sg.refl : Sg a b c d e f w w := ⟨fun _ _ _ _ _ _ _ h => h⟩
instance Sg.alloc (o : Obj) [k : Sg a b c d e f w w'] : Sg a b c d e f w (w'.alloc o) := ⟨fun _ h1 h2 h3 h4 h5 h6 h => below_alloc (k.out _ h1 h2 h3 h4 h5 h6 h) o⟩
instance Sg.drewN (n : Nat) [k : Sg a b c d e f w w'] : Sg a b c d e f w (w'.drewN n) := ⟨fun _ h1 h2 h3 h4 h5 h6 h => pw_below_drewN (k.out _ h1 h2 h3 h4 h5 h6 h) n⟩
instance Sg.drew [k : Sg a b c d e f w w'] : Sg a b c d e f w w'.drew := ⟨fun _ h1 h2 h3 h4 h5 h6 h => below_drew1 (k.out _ h1 h2 h3 h4 h5 h6 h)⟩
instance Sg.set6 (i : Nat) (u : Value) [k : Sg a b c d e f w w'] : Sg a b c d e f w (w'.setCell ⟨f, i, none⟩ u) := ⟨fun _ h1 h2 h3 h4 h5 h6 h => below_set (k.out _ h1 h2 h3 h4 h5 h6 h) h6⟩
instance Sg.set5 (i : Nat) (u : Value) [k : Sg a b c d e f w w'] : Sg a b c d e f w (w'.setCell ⟨e, i, none⟩ u) := ⟨fun _ h1 h2 h3 h4 h5 h6 h => below_set (k.out _ h1 h2 h3 h4 h5 h6 h) h5⟩
instance Sg.set4 (i : Nat) (u : Value) [k : Sg a b c d e f w w'] : Sg a b c d e f w (w'.setCell ⟨d, i, none⟩ u) := ⟨fun _ h1 h2 h3 h4 h5 h6 h => below_set (k.out _ h1 h2 h3 h4 h5 h6 h) h4⟩
instance Sg.set3 (i : Nat) (u : Value) [k : Sg a b c d e f w w'] : Sg a b c d e f w (w'.setCell ⟨c, i, none⟩ u) := ⟨fun _ h1 h2 h3 h4 h5 h6 h => below_set (k.out _ h1 h2 h3 h4 h5 h6 h) h3⟩
instance Sg.set2 (i : Nat) (u : Value) [k : Sg a b c d e f w w'] : Sg a b c d e f w (w'.setCell ⟨b, i, none⟩ u) := ⟨fun _ h1 h2 h3 h4 h5 h6 h => below_set (k.out _ h1 h2 h3 h4 h5 h6 h) h2⟩
instance Sg.set1 (i : Nat) (u : Value) [k : Sg a b c d e f w w'] : Sg a b c d e f w (w'.setCell ⟨a, i, none⟩ u) := ⟨fun _ h1 h2 h3 h4 h5 h6 h => below_set (k.out _ h1 h2 h3 h4 h5 h6 h) h1⟩
end
theorem s1 {a : Nat} {w0 w w' : World} (h1 : w0.heap.size ≤ a) (h : Below w0.heap.size w0 w) [k : Sg a a a a a a w w'] : Below w0.heap.size w0 w' := k.out _ h1 h1 h1 h1 h1 h1 h
theorem s2 {a b : Nat} {w0 w w' : World} (h1 : w0.heap.size ≤ a) (h2 : w0.heap.size ≤ b) (h : Below w0.heap.size w0 w) [k : Sg a b b b b b w w'] : Below w0.heap.size w0 w' := k.out _ h1 h2 h2 h2 h2 h2 h
theorem s3 {a b c : Nat} {w0 w w' : World} (h1 : w0.heap.size ≤ a) (h2 : w0.heap.size ≤ b) (h3 : w0.heap.size ≤ c) (h : Below w0.heap.size w0 w) [k : Sg a b c c c c w w'] : Below w0.heap.size w0 w' := k.out _ h1 h2 h3 h3 h3 h3 h
theorem s4 {a b c d : Nat} {w0 w w' : World} (h1 : w0.heap.size ≤ a) (h2 : w0.heap.size ≤ b) (h3 : w0.heap.size ≤ c) (h4 : w0.heap.size ≤ d) (h : Below w0.heap.size w0 w) [k : Sg a b c d d d w w'] : Below w0.heap.size w0 w' := k.out _ h1 h2 h3 h4 h4 h4 h
theorem s5 {a b c d e : Nat} {w0 w w' : World} (h1 : w0.heap.size ≤ a) (h2 : w0.heap.size ≤ b) (h3 : w0.heap.size ≤ c) (h4 : w0.heap.size ≤ d) (h5 : w0.heap.size ≤ e) (h : Below w0.heap.size w0 w) [k : Sg a b c d e e w w'] : Below w0.heap.size w0 w' := k.out _ h1 h2 h3 h4 h5 h5 h
theorem s6 {a b c d e f : Nat} {w0 w w' : World} (h1 : w0.heap.size ≤ a) (h2 : w0.heap.size ≤ b) (h3 : w0.heap.size ≤ c) (h4 : w0.heap.size ≤ d) (h5 : w0.heap.size ≤ e) (h6 : w0.heap.size ≤ f) (h : Below w0.heap.size w0 w) [k : Sg a b c d e f w w'] : Below w0.heap.size w0 w' := k.out _ h1 h2 h3 h4 h5 h6 h
class K0 (g : Nat) (w w' : World) : Prop where
  out : ∀ w0 : World, KeepBut w0 w g none → KeepBut w0 w' g none
section
variable (g : Nat) (w w' : World)
instance K0.refl : K0 g w w := ⟨fun _ h => h⟩
instance K0.alloc (o : Obj) [k : K0 g w w'] : K0 g w (w'.alloc o) := ⟨fun _ h => keep_alloc (k.out _ h) o⟩
instance K0.drewN (n : Nat) [k : K0 g w w'] : K0 g w (w'.drewN n) := ⟨fun _ h => keep_drewN (k.out _ h) n⟩
instance K0.drew [k : K0 g w w'] : K0 g w w'.drew := ⟨fun _ h => keep_drew (k.out _ h)⟩
instance K0.set (i : Nat) (u : Value) [k : K0 g w w'] : K0 g w (w'.setCell ⟨g, i, none⟩ u) := ⟨fun _ h => (k.out _ h).set_ i u⟩
end
theorem k0 {g : Nat} {w0 w w' : World} (h : KeepBut w0 w g none) [k : K0 g w w'] : KeepBut w0 w' g none := k.out _ h
class Kf (g a b c d : Nat) (w w' : World) : Prop where
  out : ∀ w0 : World, w0.heap.size ≤ a → w0.heap.size ≤ b → w0.heap.size ≤ c → w0.heap.size ≤ d → KeepBut w0 w g none → KeepBut w0 w' g none
section
variable (g a b c d : Nat) (w w' : World)
instance Kf.refl : Kf g a b c d w w := ⟨fun _ _ _ _ _ h => h⟩
instance Kf.alloc (o : Obj) [k : Kf g a b c d w w'] : Kf g a b c d w (w'.alloc o) := ⟨fun _ h1 h2 h3 h4 h => keep_alloc (k.out _ h1 h2 h3 h4 h) o⟩
instance Kf.drewN (n : Nat) [k : Kf g a b c d w w'] : Kf g a b c d w (w'.drewN n) := ⟨fun _ h1 h2 h3 h4 h => keep_drewN (k.out _ h1 h2 h3 h4 h) n⟩
instance Kf.drew [k : Kf g a b c d w w'] : Kf g a b c d w w'.drew := ⟨fun _ h1 h2 h3 h4 h => keep_drew (k.out _ h1 h2 h3 h4 h)⟩
instance Kf.set4 (i : Nat) (u : Value) [k : Kf g a b c d w w'] : Kf g a b c d w (w'.setCell ⟨d, i, none⟩ u) := ⟨fun _ h1 h2 h3 h4 h => keep_far (k.out _ h1 h2 h3 h4 h) h4 u⟩
instance Kf.set3 (i : Nat) (u : Value) [k : Kf g a b c d w w'] : Kf g a b c d w (w'.setCell ⟨c, i, none⟩ u) := ⟨fun _ h1 h2 h3 h4 h => keep_far (k.out _ h1 h2 h3 h4 h) h3 u⟩
instance Kf.set2 (i : Nat) (u : Value) [k : Kf g a b c d w w'] : Kf g a b c d w (w'.setCell ⟨b, i, none⟩ u) := ⟨fun _ h1 h2 h3 h4 h => keep_far (k.out _ h1 h2 h3 h4 h) h2 u⟩
instance Kf.set1 (i : Nat) (u : Value) [k : Kf g a b c d w w'] : Kf g a b c d w (w'.setCell ⟨a, i, none⟩ u) := ⟨fun _ h1 h2 h3 h4 h => keep_far (k.out _ h1 h2 h3 h4 h) h1 u⟩
instance Kf.set (i : Nat) (u : Value) [k : Kf g a b c d w w'] : Kf g a b c d w (w'.setCell ⟨g, i, none⟩ u) := ⟨fun _ h1 h2 h3 h4 h => (k.out _ h1 h2 h3 h4 h).set_ i u⟩
end
theorem kf1 {g a : Nat} {w0 w w' : World} (h1 : w0.heap.size ≤ a) (h : KeepBut w0 w g none) [k : Kf g a a a a w w'] : KeepBut w0 w' g none := k.out _ h1 h1 h1 h1 h
theorem kf2 {g a b : Nat} {w0 w w' : World} (h1 : w0.heap.size ≤ a) (h2 : w0.heap.size ≤ b) (h : KeepBut w0 w g none) [k : Kf g a b b b w w'] : KeepBut w0 w' g none := k.out _ h1 h2 h2 h2 h
theorem kf3 {g a b c : Nat} {w0 w w' : World} (h1 : w0.heap.size ≤ a) (h2 : w0.heap.size ≤ b) (h3 : w0.heap.size ≤ c) (h : KeepBut w0 w g none) [k : Kf g a b c c w w'] : KeepBut w0 w' g none := k.out _ h1 h2 h3 h3 h
theorem kf4 {g a b c d : Nat} {w0 w w' : World} (h1 : w0.heap.size ≤ a) (h2 : w0.heap.size ≤ b) (h3 : w0.heap.size ≤ c) (h4 : w0.heap.size ≤ d) (h : KeepBut w0 w g none) [k : Kf g a b c d w w'] : KeepBut w0 w' g none := k.out _ h1 h2 h3 h4 h
theorem kC {α : Type} {d : Kd α} {n : Nat} {A : Option Addr} {xs : List α} {w0 w w' : World} (h : Kd.C d w0 A n xs) (hb : Below w0.heap.size w0 w) [k : Later w w'] : Kd.C d w' A n xs := Kd.C_below (Kd.C_below h hb) k.out
class Nl (p : Prop) : Prop where
  out : p
section
variable {α : Type} (d : Kd α) (e : TypeId) (w : World) (base : Nat) (ok : Nat → Prop)
instance : Nl (Kd.S d e w base ok (.slice none 0 0) []) := ⟨Kd.S_nil _ _ _ _ _⟩
instance : Nl (Kd.N d e w base ok (.slice none 0 0) []) := ⟨Kd.N_nil _ _ _ _ _⟩
instance : Nl (Kd.V d e w base ok (.slice none 0 0) []) := ⟨Kd.V_nil _ _ _ _ _⟩
instance : Nl (Kd.Q d e w base ok (.slice none 0 0) []) := ⟨Kd.Q_nil _ _ _ _ _⟩
instance : Nl (Kd.R d e w base ok (.slice none 0 0) []) := ⟨Kd.R_nil _ _ _ _ _⟩
end
theorem nl {p : Prop} [k : Nl p] : p := k.out
theorem far6 {α : Type} {d : Kd α} {e : TypeId} {w : World} {base : Nat} {ok : Nat → Prop} {v : Value} {xs : List α} (h : d.R e w base ok v xs) {g t : Nat} {cells : Array Value} (hb : w.heap[g]? = some (.cells cells t (0, 0))) (ht : ∀ q, q ∈ e :: d.E → q ≠ t) (u0 u1 u2 u3 u4 u5 : Value) : d.R e ((((((w.setCell ⟨g, 0, none⟩ u0).setCell ⟨g, 1, none⟩ u1).setCell ⟨g, 2, none⟩ u2).setCell ⟨g, 3, none⟩ u3).setCell ⟨g, 4, none⟩ u4).setCell ⟨g, 5, none⟩ u5) base ok v xs :=
  Kd.R_mono (Kd.R_far (p := ⟨g, 5, none⟩) (Kd.R_far (p := ⟨g, 4, none⟩) (Kd.R_far (p := ⟨g, 3, none⟩) (Kd.R_far (p := ⟨g, 2, none⟩) (Kd.R_far (p := ⟨g, 1, none⟩) (Kd.R_far (p := ⟨g, 0, none⟩) (Kd.R_types h hb ht) (fun _ hk => hk.2) u0) (fun _ hk => hk.2) u1) (fun _ hk => hk.2) u2) (fun _ hk => hk.2) u3) (fun _ hk => hk.2) u4) (fun _ hk => hk.2) u5) (fun _ h_ => h_.1)
theorem puts6 {w : World} {g t : Nat} {z0 z1 z2 z3 z4 z5 u0 u1 u2 u3 u4 u5 : Value} (h : w.heap[g]? = some (.cells #[z0, z1, z2, z3, z4, z5] t (0, 0))) : ((((((w.setCell ⟨g, 0, none⟩ u0).setCell ⟨g, 1, none⟩ u1).setCell ⟨g, 2, none⟩ u2).setCell ⟨g, 3, none⟩ u3).setCell ⟨g, 4, none⟩ u4).setCell ⟨g, 5, none⟩ u5).heap[g]? = some (.cells #[u0, u1, u2, u3, u4, u5] t (0, 0)) := by
  refine blk_put (cs := #[u0, u1, u2, u3, u4, z5]) ?_ 5 _ rfl
  refine blk_put (cs := #[u0, u1, u2, u3, z4, z5]) ?_ 4 _ rfl
  refine blk_put (cs := #[u0, u1, u2, z3, z4, z5]) ?_ 3 _ rfl
  refine blk_put (cs := #[u0, u1, z2, z3, z4, z5]) ?_ 2 _ rfl
  refine blk_put (cs := #[u0, z1, z2, z3, z4, z5]) ?_ 1 _ rfl
  refine blk_put (cs := #[z0, z1, z2, z3, z4, z5]) ?_ 0 _ rfl
  exact h
theorem cells6 {w : World} {g t : Nat} {z0 z1 z2 z3 z4 z5 : Value} (h : w.heap[g]? = some (.cells #[z0, z1, z2, z3, z4, z5] t (0, 0))) : w.cell? ⟨g, 0, none⟩ = some z0 ∧ w.cell? ⟨g, 1, none⟩ = some z1 ∧ w.cell? ⟨g, 2, none⟩ = some z2 ∧ w.cell? ⟨g, 3, none⟩ = some z3 ∧ w.cell? ⟨g, 4, none⟩ = some z4 ∧ w.cell? ⟨g, 5, none⟩ = some z5 := ⟨(blk_cell h 0).trans rfl, (blk_cell h 1).trans rfl, (blk_cell h 2).trans rfl, (blk_cell h 3).trans rfl, (blk_cell h 4).trans rfl, (blk_cell h 5).trans rfl⟩
theorem froz6 {w : World} {g t : Nat} {cs : Array Value} (h : w.heap[g]? = some (.cells cs t (0, 0))) : w.frozen? ⟨g, 0, none⟩ = false ∧ w.frozen? ⟨g, 1, none⟩ = false ∧ w.frozen? ⟨g, 2, none⟩ = false ∧ w.frozen? ⟨g, 3, none⟩ = false ∧ w.frozen? ⟨g, 4, none⟩ = false ∧ w.frozen? ⟨g, 5, none⟩ = false := ⟨blk_frozen h 0, blk_frozen h 1, blk_frozen h 2, blk_frozen h 3, blk_frozen h 4, blk_frozen h 5⟩
theorem cf6 {W : World} {a : Addr} {g : Nat} (h : a.block ≠ g) (u0 u1 u2 u3 u4 u5 : Value) : ((((((W.setCell ⟨g, 0, none⟩ u0).setCell ⟨g, 1, none⟩ u1).setCell ⟨g, 2, none⟩ u2).setCell ⟨g, 3, none⟩ u3).setCell ⟨g, 4, none⟩ u4).setCell ⟨g, 5, none⟩ u5).cell? a = W.cell? a := (cell_far (p := ⟨g, 5, none⟩) h u5).trans ((cell_far (p := ⟨g, 4, none⟩) h u4).trans ((cell_far (p := ⟨g, 3, none⟩) h u3).trans ((cell_far (p := ⟨g, 2, none⟩) h u2).trans ((cell_far (p := ⟨g, 1, none⟩) h u1).trans ((cell_far (p := ⟨g, 0, none⟩) h u0).trans rfl)))))
theorem puts14 {w : World} {g t : Nat} {z0 z1 z2 z3 z4 z5 z6 z7 z8 z9 z10 z11 z12 z13 u0 u1 u2 u3 u4 u5 u6 u7 u8 u9 u10 u11 u12 u13 : Value} (h : w.heap[g]? = some (.cells #[z0, z1, z2, z3, z4, z5, z6, z7, z8, z9, z10, z11, z12, z13] t (0, 0))) : ((((((((((((((w.setCell ⟨g, 0, none⟩ u0).setCell ⟨g, 1, none⟩ u1).setCell ⟨g, 2, none⟩ u2).setCell ⟨g, 3, none⟩ u3).setCell ⟨g, 4, none⟩ u4).setCell ⟨g, 5, none⟩ u5).setCell ⟨g, 6, none⟩ u6).setCell ⟨g, 7, none⟩ u7).setCell ⟨g, 8, none⟩ u8).setCell ⟨g, 9, none⟩ u9).setCell ⟨g, 10, none⟩ u10).setCell ⟨g, 11, none⟩ u11).setCell ⟨g, 12, none⟩ u12).setCell ⟨g, 13, none⟩ u13).heap[g]? = some (.cells #[u0, u1, u2, u3, u4, u5, u6, u7, u8, u9, u10, u11, u12, u13] t (0, 0)) := by
  refine blk_put (cs := #[u0, u1, u2, u3, u4, u5, u6, u7, u8, u9, u10, u11, u12, z13]) ?_ 13 _ rfl
  refine blk_put (cs := #[u0, u1, u2, u3, u4, u5, u6, u7, u8, u9, u10, u11, z12, z13]) ?_ 12 _ rfl
  refine blk_put (cs := #[u0, u1, u2, u3, u4, u5, u6, u7, u8, u9, u10, z11, z12, z13]) ?_ 11 _ rfl
  refine blk_put (cs := #[u0, u1, u2, u3, u4, u5, u6, u7, u8, u9, z10, z11, z12, z13]) ?_ 10 _ rfl
  refine blk_put (cs := #[u0, u1, u2, u3, u4, u5, u6, u7, u8, z9, z10, z11, z12, z13]) ?_ 9 _ rfl
  refine blk_put (cs := #[u0, u1, u2, u3, u4, u5, u6, u7, z8, z9, z10, z11, z12, z13]) ?_ 8 _ rfl
  refine blk_put (cs := #[u0, u1, u2, u3, u4, u5, u6, z7, z8, z9, z10, z11, z12, z13]) ?_ 7 _ rfl
  refine blk_put (cs := #[u0, u1, u2, u3, u4, u5, z6, z7, z8, z9, z10, z11, z12, z13]) ?_ 6 _ rfl
  refine blk_put (cs := #[u0, u1, u2, u3, u4, z5, z6, z7, z8, z9, z10, z11, z12, z13]) ?_ 5 _ rfl
  refine blk_put (cs := #[u0, u1, u2, u3, z4, z5, z6, z7, z8, z9, z10, z11, z12, z13]) ?_ 4 _ rfl
  refine blk_put (cs := #[u0, u1, u2, z3, z4, z5, z6, z7, z8, z9, z10, z11, z12, z13]) ?_ 3 _ rfl
  refine blk_put (cs := #[u0, u1, z2, z3, z4, z5, z6, z7, z8, z9, z10, z11, z12, z13]) ?_ 2 _ rfl
  refine blk_put (cs := #[u0, z1, z2, z3, z4, z5, z6, z7, z8, z9, z10, z11, z12, z13]) ?_ 1 _ rfl
  refine blk_put (cs := #[z0, z1, z2, z3, z4, z5, z6, z7, z8, z9, z10, z11, z12, z13]) ?_ 0 _ rfl
  exact h
theorem cells14 {w : World} {g t : Nat} {z0 z1 z2 z3 z4 z5 z6 z7 z8 z9 z10 z11 z12 z13 : Value} (h : w.heap[g]? = some (.cells #[z0, z1, z2, z3, z4, z5, z6, z7, z8, z9, z10, z11, z12, z13] t (0, 0))) : w.cell? ⟨g, 0, none⟩ = some z0 ∧ w.cell? ⟨g, 1, none⟩ = some z1 ∧ w.cell? ⟨g, 2, none⟩ = some z2 ∧ w.cell? ⟨g, 3, none⟩ = some z3 ∧ w.cell? ⟨g, 4, none⟩ = some z4 ∧ w.cell? ⟨g, 5, none⟩ = some z5 ∧ w.cell? ⟨g, 6, none⟩ = some z6 ∧ w.cell? ⟨g, 7, none⟩ = some z7 ∧ w.cell? ⟨g, 8, none⟩ = some z8 ∧ w.cell? ⟨g, 9, none⟩ = some z9 ∧ w.cell? ⟨g, 10, none⟩ = some z10 ∧ w.cell? ⟨g, 11, none⟩ = some z11 ∧ w.cell? ⟨g, 12, none⟩ = some z12 ∧ w.cell? ⟨g, 13, none⟩ = some z13 := ⟨(blk_cell h 0).trans rfl, (blk_cell h 1).trans rfl, (blk_cell h 2).trans rfl, (blk_cell h 3).trans rfl, (blk_cell h 4).trans rfl, (blk_cell h 5).trans rfl, (blk_cell h 6).trans rfl, (blk_cell h 7).trans rfl, (blk_cell h 8).trans rfl, (blk_cell h 9).trans rfl, (blk_cell h 10).trans rfl, (blk_cell h 11).trans rfl, (blk_cell h 12).trans rfl, (blk_cell h 13).trans rfl⟩
theorem froz14 {w : World} {g t : Nat} {cs : Array Value} (h : w.heap[g]? = some (.cells cs t (0, 0))) : w.frozen? ⟨g, 0, none⟩ = false ∧ w.frozen? ⟨g, 1, none⟩ = false ∧ w.frozen? ⟨g, 2, none⟩ = false ∧ w.frozen? ⟨g, 3, none⟩ = false ∧ w.frozen? ⟨g, 4, none⟩ = false ∧ w.frozen? ⟨g, 5, none⟩ = false ∧ w.frozen? ⟨g, 6, none⟩ = false ∧ w.frozen? ⟨g, 7, none⟩ = false ∧ w.frozen? ⟨g, 8, none⟩ = false ∧ w.frozen? ⟨g, 9, none⟩ = false ∧ w.frozen? ⟨g, 10, none⟩ = false ∧ w.frozen? ⟨g, 11, none⟩ = false ∧ w.frozen? ⟨g, 12, none⟩ = false ∧ w.frozen? ⟨g, 13, none⟩ = false := ⟨blk_frozen h 0, blk_frozen h 1, blk_frozen h 2, blk_frozen h 3, blk_frozen h 4, blk_frozen h 5, blk_frozen h 6, blk_frozen h 7, blk_frozen h 8, blk_frozen h 9, blk_frozen h 10, blk_frozen h 11, blk_frozen h 12, blk_frozen h 13⟩
theorem cf14 {W : World} {a : Addr} {g : Nat} (h : a.block ≠ g) (u0 u1 u2 u3 u4 u5 u6 u7 u8 u9 u10 u11 u12 u13 : Value) : ((((((((((((((W.setCell ⟨g, 0, none⟩ u0).setCell ⟨g, 1, none⟩ u1).setCell ⟨g, 2, none⟩ u2).setCell ⟨g, 3, none⟩ u3).setCell ⟨g, 4, none⟩ u4).setCell ⟨g, 5, none⟩ u5).setCell ⟨g, 6, none⟩ u6).setCell ⟨g, 7, none⟩ u7).setCell ⟨g, 8, none⟩ u8).setCell ⟨g, 9, none⟩ u9).setCell ⟨g, 10, none⟩ u10).setCell ⟨g, 11, none⟩ u11).setCell ⟨g, 12, none⟩ u12).setCell ⟨g, 13, none⟩ u13).cell? a = W.cell? a := (cell_far (p := ⟨g, 13, none⟩) h u13).trans ((cell_far (p := ⟨g, 12, none⟩) h u12).trans ((cell_far (p := ⟨g, 11, none⟩) h u11).trans ((cell_far (p := ⟨g, 10, none⟩) h u10).trans ((cell_far (p := ⟨g, 9, none⟩) h u9).trans ((cell_far (p := ⟨g, 8, none⟩) h u8).trans ((cell_far (p := ⟨g, 7, none⟩) h u7).trans ((cell_far (p := ⟨g, 6, none⟩) h u6).trans ((cell_far (p := ⟨g, 5, none⟩) h u5).trans ((cell_far (p := ⟨g, 4, none⟩) h u4).trans ((cell_far (p := ⟨g, 3, none⟩) h u3).trans ((cell_far (p := ⟨g, 2, none⟩) h u2).trans ((cell_far (p := ⟨g, 1, none⟩) h u1).trans ((cell_far (p := ⟨g, 0, none⟩) h u0).trans rfl)))))))))))))
theorem puts4 {w : World} {g t : Nat} {z0 z1 z2 z3 u0 u1 u2 u3 : Value} (h : w.heap[g]? = some (.cells #[z0, z1, z2, z3] t (0, 0))) : ((((w.setCell ⟨g, 0, none⟩ u0).setCell ⟨g, 1, none⟩ u1).setCell ⟨g, 2, none⟩ u2).setCell ⟨g, 3, none⟩ u3).heap[g]? = some (.cells #[u0, u1, u2, u3] t (0, 0)) := by
  refine blk_put (cs := #[u0, u1, u2, z3]) ?_ 3 _ rfl
  refine blk_put (cs := #[u0, u1, z2, z3]) ?_ 2 _ rfl
  refine blk_put (cs := #[u0, z1, z2, z3]) ?_ 1 _ rfl
  refine blk_put (cs := #[z0, z1, z2, z3]) ?_ 0 _ rfl
  exact h
theorem cells4 {w : World} {g t : Nat} {z0 z1 z2 z3 : Value} (h : w.heap[g]? = some (.cells #[z0, z1, z2, z3] t (0, 0))) : w.cell? ⟨g, 0, none⟩ = some z0 ∧ w.cell? ⟨g, 1, none⟩ = some z1 ∧ w.cell? ⟨g, 2, none⟩ = some z2 ∧ w.cell? ⟨g, 3, none⟩ = some z3 := ⟨(blk_cell h 0).trans rfl, (blk_cell h 1).trans rfl, (blk_cell h 2).trans rfl, (blk_cell h 3).trans rfl⟩
theorem froz4 {w : World} {g t : Nat} {cs : Array Value} (h : w.heap[g]? = some (.cells cs t (0, 0))) : w.frozen? ⟨g, 0, none⟩ = false ∧ w.frozen? ⟨g, 1, none⟩ = false ∧ w.frozen? ⟨g, 2, none⟩ = false ∧ w.frozen? ⟨g, 3, none⟩ = false := ⟨blk_frozen h 0, blk_frozen h 1, blk_frozen h 2, blk_frozen h 3⟩
theorem cf4 {W : World} {a : Addr} {g : Nat} (h : a.block ≠ g) (u0 u1 u2 u3 : Value) : ((((W.setCell ⟨g, 0, none⟩ u0).setCell ⟨g, 1, none⟩ u1).setCell ⟨g, 2, none⟩ u2).setCell ⟨g, 3, none⟩ u3).cell? a = W.cell? a := (cell_far (p := ⟨g, 3, none⟩) h u3).trans ((cell_far (p := ⟨g, 2, none⟩) h u2).trans ((cell_far (p := ⟨g, 1, none⟩) h u1).trans ((cell_far (p := ⟨g, 0, none⟩) h u0).trans rfl)))
theorem far4 {α : Type} {d : Kd α} {e : TypeId} {w : World} {base : Nat} {ok : Nat → Prop} {v : Value} {xs : List α} (h : d.R e w base ok v xs) {g t : Nat} {cells : Array Value} (hb : w.heap[g]? = some (.cells cells t (0, 0))) (ht : ∀ q, q ∈ e :: d.E → q ≠ t) (u0 u1 u2 u3 : Value) : d.R e ((((w.setCell ⟨g, 0, none⟩ u0).setCell ⟨g, 1, none⟩ u1).setCell ⟨g, 2, none⟩ u2).setCell ⟨g, 3, none⟩ u3) base ok v xs :=
  Kd.R_mono (Kd.R_far (p := ⟨g, 3, none⟩) (Kd.R_far (p := ⟨g, 2, none⟩) (Kd.R_far (p := ⟨g, 1, none⟩) (Kd.R_far (p := ⟨g, 0, none⟩) (Kd.R_types h hb ht) (fun _ hk => hk.2) u0) (fun _ hk => hk.2) u1) (fun _ hk => hk.2) u2) (fun _ hk => hk.2) u3) (fun _ h_ => h_.1)
def ix3 (x : Int × Int × Int) (i : Int) : Int := if i = 0 then x.1 else if i = 1 then x.2.1 else x.2.2
theorem ix3_run {P : Program} {T e : TypeId} {z : Option Value} {b : Nat} {k : IntKind} (hu : P.underlying T = some (.array 3 e)) (he : P.underlying e = some (.int k)) (hi : (P.info? e).map (fun i => (i.zero, i.size, i.bytes)) = some (z, 1, b)) (x : Int × Int × Int) (i : Int) (h0 : 0 ≤ i) (h1 : i < 3) (w : World) :
    Sem.run P (Instr.index T (.agg #[.int .i64 x.1, .int .i64 x.2.1, .int .i64 x.2.2]) (.int .i64 i)) w = .ok (.int .i64 (ix3 x i)) w := by
  obtain ⟨inf, hinf, hsz⟩ := Option.map_eq_some_iff.1 hi
  have hs : inf.size = 1 := by injection hsz with _ h; injection h
  have h3 : ([.int .i64 x.1, .int .i64 x.2.1, .int .i64 x.2.2] : List Value)[i.toNat]? = some (.int .i64 (ix3 x i)) := by
    have h : i = 0 ∨ i = 1 ∨ i = 2 := by omega
    rcases h with rfl | rfl | rfl <;> rfl
  unfold Instr.index
  simp only [asIntOf, Sem.run_bind, Sem.run_pure, Result.andThen_ok, run_underlying hu]
  rw [if_pos ⟨h0, h1⟩]
  simp [part, isAgg, sizeOf, typeInfo, run_underlying he, Sem.run_bind, Sem.run_pure, hinf, hs, h3]
def ix4 (x : Int × Int × Int × Int) (i : Int) : Int := if i = 0 then x.1 else if i = 1 then x.2.1 else if i = 2 then x.2.2.1 else x.2.2.2
theorem ix4_run {P : Program} {T e : TypeId} {z : Option Value} {b : Nat} {k : IntKind} (hu : P.underlying T = some (.array 4 e)) (he : P.underlying e = some (.int k)) (hi : (P.info? e).map (fun i => (i.zero, i.size, i.bytes)) = some (z, 1, b)) (x : Int × Int × Int × Int) (i : Int) (h0 : 0 ≤ i) (h1 : i < 4) (w : World) :
    Sem.run P (Instr.index T (.agg #[.int .i64 x.1, .int .i64 x.2.1, .int .i64 x.2.2.1, .int .i64 x.2.2.2]) (.int .i64 i)) w = .ok (.int .i64 (ix4 x i)) w := by
  obtain ⟨inf, hinf, hsz⟩ := Option.map_eq_some_iff.1 hi
  have hs : inf.size = 1 := by injection hsz with _ h; injection h
  have h3 : ([.int .i64 x.1, .int .i64 x.2.1, .int .i64 x.2.2.1, .int .i64 x.2.2.2] : List Value)[i.toNat]? = some (.int .i64 (ix4 x i)) := by
    have h : i = 0 ∨ i = 1 ∨ i = 2 ∨ i = 3 := by omega
    rcases h with rfl | rfl | rfl | rfl <;> rfl
  unfold Instr.index
  simp only [asIntOf, Sem.run_bind, Sem.run_pure, Result.andThen_ok, run_underlying hu]
  rw [if_pos ⟨h0, h1⟩]
  simp [part, isAgg, sizeOf, typeInfo, run_underlying he, Sem.run_bind, Sem.run_pure, hinf, hs, h3]
def ix9b (x : Bool × Bool × Bool × Bool × Bool × Bool × Bool × Bool × Bool) (i : Int) : Bool := if i = 0 then x.1 else if i = 1 then x.2.1 else if i = 2 then x.2.2.1 else if i = 3 then x.2.2.2.1 else if i = 4 then x.2.2.2.2.1 else if i = 5 then x.2.2.2.2.2.1 else if i = 6 then x.2.2.2.2.2.2.1 else if i = 7 then x.2.2.2.2.2.2.2.1 else x.2.2.2.2.2.2.2.2
theorem ix9b_run {P : Program} {T e : TypeId} {z : Option Value} {b : Nat} (hu : P.underlying T = some (.array 9 e)) (he : P.underlying e = some .bool) (hi : (P.info? e).map (fun i => (i.zero, i.size, i.bytes)) = some (z, 1, b)) (x : Bool × Bool × Bool × Bool × Bool × Bool × Bool × Bool × Bool) (i : Int) (h0 : 0 ≤ i) (h1 : i < 9) (w : World) :
    Sem.run P (Instr.index T (.agg #[.bool x.1, .bool x.2.1, .bool x.2.2.1, .bool x.2.2.2.1, .bool x.2.2.2.2.1, .bool x.2.2.2.2.2.1, .bool x.2.2.2.2.2.2.1, .bool x.2.2.2.2.2.2.2.1, .bool x.2.2.2.2.2.2.2.2]) (.int .i64 i)) w = .ok (.bool (ix9b x i)) w := by
  obtain ⟨inf, hinf, hsz⟩ := Option.map_eq_some_iff.1 hi
  have hs : inf.size = 1 := by injection hsz with _ h; injection h
  have h3 : ([.bool x.1, .bool x.2.1, .bool x.2.2.1, .bool x.2.2.2.1, .bool x.2.2.2.2.1, .bool x.2.2.2.2.2.1, .bool x.2.2.2.2.2.2.1, .bool x.2.2.2.2.2.2.2.1, .bool x.2.2.2.2.2.2.2.2] : List Value)[i.toNat]? = some (.bool (ix9b x i)) := by
    have h : i = 0 ∨ i = 1 ∨ i = 2 ∨ i = 3 ∨ i = 4 ∨ i = 5 ∨ i = 6 ∨ i = 7 ∨ i = 8 := by omega
    rcases h with rfl | rfl | rfl | rfl | rfl | rfl | rfl | rfl | rfl <;> rfl
  unfold Instr.index
  simp only [asIntOf, Sem.run_bind, Sem.run_pure, Result.andThen_ok, run_underlying hu]
  rw [if_pos ⟨h0, h1⟩]
  simp [part, isAgg, sizeOf, typeInfo, run_underlying he, Sem.run_bind, Sem.run_pure, hinf, hs, h3]
/-! ### a writer's frame: since w nothing but rows of type E, and the writer's own block, has changed -/
def Fr (w W : World) (g E : Nat) : Prop := w.heap.size ≤ W.heap.size ∧ ∀ (j : Nat) (cs : Array Value) (t : TypeId) (fr : Nat × Nat), w.heap[j]? = some (.cells cs t fr) → j ≠ g → t ≠ E → W.heap[j]? = some (.cells cs t fr)
theorem Fr.refl (w : World) (g E : Nat) : Fr w w g E := ⟨Nat.le_refl _, fun _ _ _ _ h _ _ => h⟩
section
variable {w W W1 : World} {g E : Nat}
theorem Fr.below (h : Fr w W g E) (hb : Below W.heap.size W W1) : Fr w W1 g E := ⟨Nat.le_trans h.1 hb.size, fun j cs t fr hj h1 h2 => by
  have h3 := h.2 j cs t fr hj h1 h2
  have hlt : j < W.heap.size := (Array.getElem?_eq_some_iff.1 h3).1
  rw [hb.block j hlt, h3]⟩
theorem Fr.of_below (hb : Below w.heap.size w W) (g E : Nat) : Fr w W g E := (Fr.refl w g E).below hb
theorem Fr.alloc (h : Fr w W g E) (o : Obj) : Fr w (W.alloc o) g E := h.below (below_alloc (Below.refl _ _) o)
theorem Fr.drewN (h : Fr w W g E) (n : Nat) : Fr w (W.drewN n) g E := h.below (pw_below_drewN (Below.refl _ _) n)
theorem Fr.drew (h : Fr w W g E) : Fr w W.drew g E := h.below (below_drew (Below.refl _ _))
theorem Fr.set_at (h : Fr w W g E) {a : Nat} (ha : ∀ j, j < w.heap.size → j ≠ g → j ≠ a) (i : Nat) (v : Value) : Fr w (W.setCell ⟨a, i, none⟩ v) g E := ⟨by have := h.1; simpa [World.setCell] using this, fun j cs t fr hj h1 h2 => by
  have hlt : j < w.heap.size := (Array.getElem?_eq_some_iff.1 hj).1
  rw [Below.heap_setCell _ _ _ _ (ha j hlt h1)]
  exact h.2 j cs t fr hj h1 h2⟩
theorem Fr.setg (h : Fr w W g E) (i : Nat) (v : Value) : Fr w (W.setCell ⟨g, i, none⟩ v) g E := h.set_at (fun _ _ h1 => h1) i v
theorem Fr.far (h : Fr w W g E) {a : Nat} (ha : w.heap.size ≤ a) (i : Nat) (v : Value) : Fr w (W.setCell ⟨a, i, none⟩ v) g E := h.set_at (fun j hj _ => by omega) i v
theorem Fr.trans (h : Fr w W g E) (h' : Fr W W1 g E) : Fr w W1 g E := ⟨Nat.le_trans h.1 h'.1, fun j cs t fr hj h1 h2 => h'.2 j cs t fr (h.2 j cs t fr hj h1 h2) h1 h2⟩
theorem Fr.blk (h : Fr w W g E) {a : Nat} {cs : Array Value} {t : TypeId} {fr : Nat × Nat} (hb : w.heap[a]? = some (.cells cs t fr)) (hne : a ≠ g) (ht : t ≠ E) : W.heap[a]? = some (.cells cs t fr) := h.2 a cs t fr hb hne ht
theorem Fr.grown {base : Nat} {ok : Nat → Prop} {v : Value} {xs : List Int} (h : Fr w W g E) (ho : Kd.R (Kd.int .u8) E W base ok v xs) (hg : W.grownBy W1 v.ownBlock) : Fr w W1 g E := ⟨Nat.le_trans h.1 hg.size, fun j cs t fr hj h1 h2 => by
  have h3 := h.2 j cs t fr hj h1 h2
  have hlt : j < W.heap.size := (Array.getElem?_eq_some_iff.1 h3).1
  rw [hg.block j hlt, h3]
  intro e
  rcases (Kd.own_of_R ho).2 with ⟨hv, h0⟩ | ⟨g', cap, cur, hv, hb, hg', hle, hm, hs, htk⟩
  · rw [hv] at e; simp [Value.ownBlock] at e
  · rw [hv] at e
    have e' : j = g' := by simpa [Value.ownBlock] using e
    subst e'
    rw [h3] at hg'
    injection hg' with e1
    injection e1 with _ e2
    exact h2 e2⟩
end
/-- The type of the variable at a block. -/
def Typ (W : World) (a t : Nat) : Prop := ∃ cs : Array Value, W.heap[a]? = some (.cells cs t (0, 0))
section
variable {W : World} {a t : Nat}
theorem Typ.of {cs : Array Value} (h : W.heap[a]? = some (.cells cs t (0, 0))) : Typ W a t := ⟨cs, h⟩
theorem Typ.set (h : Typ W a t) (g i : Nat) (v : Value) : Typ (W.setCell ⟨g, i, none⟩ v) a t := by
  obtain ⟨cs, h⟩ := h
  by_cases e : a = g
  · subst e; exact ⟨_, blk_put h i v rfl⟩
  · exact ⟨cs, blk_far (p := ⟨g, i, none⟩) h e v⟩
theorem Typ.alloc (h : Typ W a t) (o : Obj) : Typ (W.alloc o) a t := by obtain ⟨cs, h⟩ := h; exact ⟨cs, blk_alloc h o⟩
theorem Typ.drewN (h : Typ W a t) (n : Nat) : Typ (W.drewN n) a t := by obtain ⟨cs, h⟩ := h; exact ⟨cs, h⟩
theorem Typ.drew (h : Typ W a t) : Typ W.drew a t := by obtain ⟨cs, h⟩ := h; exact ⟨cs, h⟩
end
class Ty (w w' : World) : Prop where
  out : ∀ (a : Nat) (t : TypeId), Typ w a t → Typ w' a t
instance Ty.refl (w : World) : Ty w w := ⟨fun _ _ h => h⟩
instance Ty.alloc (w w' : World) (o : Obj) [k : Ty w w'] : Ty w (w'.alloc o) := ⟨fun _ _ h => (k.out _ _ h).alloc o⟩
instance Ty.drewN (w w' : World) (n : Nat) [k : Ty w w'] : Ty w (w'.drewN n) := ⟨fun _ _ h => (k.out _ _ h).drewN n⟩
instance Ty.drew (w w' : World) [k : Ty w w'] : Ty w w'.drew := ⟨fun _ _ h => (k.out _ _ h).drew⟩
instance Ty.set (w w' : World) (b i : Nat) (u : Value) [k : Ty w w'] : Ty w (w'.setCell ⟨b, i, none⟩ u) := ⟨fun _ _ h => (k.out _ _ h).set b i u⟩
theorem ty {w w' : World} {a : Nat} {cs : Array Value} {t : TypeId} (h : w.heap[a]? = some (.cells cs t (0, 0))) [k : Ty w w'] : Typ w' a t := k.out _ _ (Typ.of h)
/-! ### a whole struct stored into its variable: one event -/
theorem setCells_at (g : Nat) (t : TypeId) : ∀ (us : List Value) (o : Nat) (W : World) (cs : Array Value), W.heap[g]? = some (.cells cs t (0, 0)) → o + us.length = cs.size → (W.setCells g o us).heap[g]? = some (.cells (cs.toList.take o ++ us).toArray t (0, 0))
  | [], o, W, cs, h, hl => by
    have e : (cs.toList.take o ++ ([] : List Value)).toArray = cs := by
      simp at hl
      simp [hl, List.take_of_length_le (Nat.le_of_eq (Array.length_toList : cs.toList.length = cs.size))]
    rw [e]
    exact h
  | u :: us, o, W, cs, h, hl => by
    simp only [List.length_cons] at hl
    have h1 := blk_put (cs' := cs.setIfInBounds o u) h o u rfl
    have h2 := setCells_at g t us (o + 1) (W.setCell ⟨g, o, none⟩ u) _ h1 (by simp; omega)
    have e : (cs.setIfInBounds o u).toList.take (o + 1) ++ us = cs.toList.take o ++ u :: us := by
      have ho : o < cs.toList.length := by simp; omega
      rw [Array.toList_setIfInBounds, List.take_add_one, List.getElem?_set_self ho, List.take_set_of_le (Nat.le_refl o)]
      simp
    rw [e] at h2
    exact h2
theorem setCells_keep (g : Nat) (us : List Value) (o : Nat) (W : World) : KeepBut W (W.setCells g o us) g none := by
  obtain ⟨s1, s2, s3, s4⟩ := setCells_same g us o W
  exact ⟨by rw [s4]; exact Nat.le_refl _, fun i _ hg _ => setCells_far us o i hg⟩
theorem struct_store {P : Program} {ops : Array Oper} {Q : Exit → Act → World → Prop} {rest : List Oper} {o : Oper} {a : Act} {W : World} (hgd : o.guard = none) (hN : o.dst = none) (t : TypeId) (p x : Operand) (ho : o.op = .store t p x) {g e : Nat} (cells : Array Value) {cur : Array Value}
    (haddr : a.eval p = .pointer (some ⟨g, 0, none⟩)) (hx : a.eval x = .agg cells) (hh : W.heap[g]? = some (.cells cur e (0, 0))) (hsz : cells.size = cur.size) (ht : (P.info? t).map (·.size) = some cells.size) (h1 : cells.toList.all (·.oneCell') = true)
    (h : ∀ w1, w1.heap[g]? = some (.cells cells e (0, 0)) → KeepBut W w1 g none → (∀ B w0, Below B w0 W → B ≤ g → Below B w0 w1) → wpList P ops Q rest a w1) : wpList P ops Q (o :: rest) a W := by
  have hrun := run_store_run (P := P) t (.agg cells) cells.toList hh rfl (by simpa using ht) (o := 0) (by simp; omega) (fun q hq => List.all_eq_true.1 h1 q hq)
  have hrun' : (execOp a.eval o).run P W = .ok .skip (W.setCells g 0 cells.toList) := by
    unfold execOp
    simp only [ho, haddr, hx, Sem.run_bind, hrun, Result.andThen_ok, Sem.run_pure]
  refine wpList_plain hgd fun K hK => ?_
  unfold Oper.wp
  rw [hrun']
  show K (a.put o.dst undef) _
  rw [hN]
  have hb := setCells_at g e cells.toList 0 W cur hh (by simp; omega)
  have hk := setCells_keep g cells.toList 0 W
  obtain ⟨s1, s2, s3, s4⟩ := setCells_same g cells.toList 0 W
  simp only [List.take_zero, List.nil_append, Array.toArray_toList] at hb
  exact hK _ _ (h _ hb hk (fun B w0 HB hB => HB.trans ⟨s1, s2, s3, by rw [s4]; exact Nat.le_refl _, fun k hk' => setCells_far cells.toList 0 k (by omega)⟩))
/-! a part of a struct (one cell, or some that lie together) stored into its variable: one event -/
theorem setCells_put (g : Nat) (t : TypeId) : ∀ (us : List Value) (o : Nat) (W : World) (cs : Array Value), W.heap[g]? = some (.cells cs t (0, 0)) → o + us.length ≤ cs.size → (W.setCells g o us).heap[g]? = some (.cells (cs.toList.take o ++ us ++ cs.toList.drop (o + us.length)).toArray t (0, 0))
  | [], o, W, cs, h, _ => by
    have e : (cs.toList.take o ++ ([] : List Value) ++ cs.toList.drop (o + ([] : List Value).length)).toArray = cs := by simp
    rw [e]
    exact h
  | u :: us, o, W, cs, h, hl => by
    simp only [List.length_cons] at hl
    have h1 := blk_put (cs' := cs.setIfInBounds o u) h o u rfl
    have h2 := setCells_put g t us (o + 1) (W.setCell ⟨g, o, none⟩ u) _ h1 (by simp; omega)
    have e : (cs.setIfInBounds o u).toList.take (o + 1) ++ us ++ (cs.setIfInBounds o u).toList.drop (o + 1 + us.length) = cs.toList.take o ++ u :: us ++ cs.toList.drop (o + (u :: us).length) := by
      have ho : o < cs.toList.length := by simp; omega
      rw [Array.toList_setIfInBounds, List.take_add_one, List.getElem?_set_self ho, List.take_set_of_le (Nat.le_refl o), List.drop_set_of_lt (by omega)]
      simp [Nat.add_assoc, Nat.add_comm 1]
    rw [e] at h2
    exact h2
theorem part_store {P : Program} {ops : Array Oper} {Q : Exit → Act → World → Prop} {rest : List Oper} {o : Oper} {a : Act} {W : World} (hgd : o.guard = none) (hN : o.dst = none) (t : TypeId) (p x : Operand) (ho : o.op = .store t p x) {g e oo : Nat} (u : Value) (seg : List Value) {cur : Array Value} (new : Array Value)
    (haddr : a.eval p = .pointer (some ⟨g, oo, none⟩)) (hx : a.eval x = u) (hu : u.cells.toList = seg) (hh : W.heap[g]? = some (.cells cur e (0, 0))) (hfit : oo + seg.length ≤ cur.size) (hnew : (cur.toList.take oo ++ seg ++ cur.toList.drop (oo + seg.length)).toArray = new) (ht : (P.info? t).map (·.size) = some seg.length) (h1 : seg.all (·.oneCell') = true)
    (h : ∀ w1, w1.heap[g]? = some (.cells new e (0, 0)) → KeepBut W w1 g none → (∀ B w0, Below B w0 W → B ≤ g → Below B w0 w1) → wpList P ops Q rest a w1) : wpList P ops Q (o :: rest) a W := by
  have hrun := run_store_run (P := P) t u seg hh hu ht (o := oo) hfit (fun q hq => List.all_eq_true.1 h1 q hq)
  have hrun' : (execOp a.eval o).run P W = .ok .skip (W.setCells g oo seg) := by
    unfold execOp
    simp only [ho, haddr, hx, Sem.run_bind, hrun, Result.andThen_ok, Sem.run_pure]
  refine wpList_plain hgd fun K hK => ?_
  unfold Oper.wp
  rw [hrun']
  show K (a.put o.dst undef) _
  rw [hN]
  have hb := setCells_put g e seg oo W cur hh hfit
  have hk := setCells_keep g seg oo W
  obtain ⟨s1, s2, s3, s4⟩ := setCells_same g seg oo W
  rw [hnew] at hb
  exact hK _ _ (h _ hb hk (fun B w0 HB hB => HB.trans ⟨s1, s2, s3, by rw [s4]; exact Nat.le_refl _, fun k hk' => setCells_far seg oo k (by omega)⟩))
theorem keep_box {w W W1 : World} {g gb : Nat} (h : KeepBut w W g none) (hk : KeepBut W W1 gb none) (hge : w.heap.size ≤ gb) : KeepBut w W1 g none := ⟨Nat.le_trans h.1 hk.1, fun i hi h1 h2 => by
  rw [hk.2 i (Nat.lt_of_lt_of_le hi h.1) (by omega) (by simp), h.2 i hi h1 h2]⟩
theorem Fr.keep {w W W1 : World} {g gb E : Nat} (h : Fr w W g E) (hk : KeepBut W W1 gb none) (hge : w.heap.size ≤ gb) : Fr w W1 g E := ⟨Nat.le_trans h.1 hk.1, fun j cs t fr hj h1 h2 => by
  have h3 := h.2 j cs t fr hj h1 h2
  have hlt : j < w.heap.size := (Array.getElem?_eq_some_iff.1 hj).1
  rw [hk.2 j (Nat.lt_of_lt_of_le hlt h.1) (by omega) (by simp), h3]⟩
theorem alloc_event {P : Program} {ops : Array Oper} {Q : Exit → Act → World → Prop} {rest : List Oper} {o : Oper} {a : Act} {W : World} (hgd : o.guard = none) {N : Tmp} (_hd : o.dst = some N) {t : TypeId} (ho : o.op = .alloc t) {cells : Array Value} {n b : Nat} (hi : (P.info? t).map (fun i => (i.zero, i.size, i.bytes)) = some (some (.agg cells), n, b))
    (h : ∀ g, g = W.heap.size → ∀ w1, w1.heap[g]? = some (.cells cells t (0, 0)) → Below W.heap.size W w1 → wpList P ops Q rest (a.put o.dst (.pointer (some ⟨g, 0, none⟩))) w1) : wpList P ops Q (o :: rest) a W := by
  obtain ⟨i, hinf, e⟩ := Option.map_eq_some_iff.1 hi
  have hz : i.zero = some (.agg cells) := by injection e
  refine box_event hgd _hd (cs := cells) (t := t) ?_ h
  unfold execOp
  simp only [ho]
  simp [Instr.alloc, zeroValue, typeInfo, hinf, hz, newVar, newRow, Sem.run_bind, Value.cells]
/-! ### a whole struct loaded: one step -/
def CellsAt (W : World) (B : Addr) : Nat → List Value → Prop
  | _, [] => True
  | j, u :: us => W.cell? (B.add j) = some u ∧ CellsAt W B (j + 1) us
theorem CellsAt.get {W : World} {B : Addr} : ∀ {us : List Value} {o : Nat}, CellsAt W B o us → ∀ j u, us[j]? = some u → W.cell? (B.add (o + j)) = some u
  | [], _, _, j, u, h => by simp at h
  | v :: us, o, hc, 0, u, h => by
    simp only [List.getElem?_cons_zero, Option.some.injEq] at h
    subst h
    exact hc.1
  | v :: us, o, hc, j + 1, u, h => by
    have := CellsAt.get hc.2 j u (by simpa using h)
    rwa [show o + 1 + j = o + (j + 1) by omega] at this
theorem struct_load {P : Program} {ops : Array Oper} {Q : Exit → Act → World → Prop} {rest : List Oper} {o : Oper} {a : Act} {W : World} (hgd : o.guard = none) (t : TypeId) (x : Operand) (ho : o.op = .load t x) {B : Addr} (cs : List Value) (haddr : a.eval x = .pointer (some B)) {d : TypeDesc}
    (hu : P.underlying t = some d) (hd : d.isRow = true) (hi : (P.info? t).map (·.size) = some cs.length) (hc : CellsAt W B 0 cs) (h : wpList P ops Q rest (a.put o.dst (.agg cs.toArray)) W) : wpList P ops Q (o :: rest) a W := by
  have hl : (loadCells B cs.length).run P W = .ok cs.toArray W := run_loadCells_list (P := P) W B cs (fun j v hv => by have := hc.get j v hv; rwa [Nat.zero_add] at this)
  have hv : (loadVar t B).run P W = .ok (.agg cs.toArray) W := by
    cases hq : P.info? t with
    | none => simp [hq] at hi
    | some i =>
      have hs : i.size = cs.length := by simpa [hq] using hi
      have hagg : (isAgg t).run P W = .ok true W := by
        unfold isAgg
        rw [Sem.run_bind, run_underlying hu W]
        cases d <;> simp_all [TypeDesc.isRow]
      simp [loadVar, Sem.run_bind, hagg, sizeOf, typeInfo, hq, hs, hl]
  have hrun : (execOp a.eval o).run P W = .ok (.value (.agg cs.toArray)) W := by
    unfold execOp
    simp only [ho, haddr, Instr.loadAt, Instr.sureAddr, Sem.run_bind, Sem.run_pure, Result.andThen_ok, hv]
  exact Kd.event_run hgd hrun h
theorem cellsAt_list {W : World} {g : Nat} : ∀ (us : List Value) (o : Nat), (∀ j u, us[j]? = some u → W.cell? ⟨g, o + j, none⟩ = some u) → CellsAt W ⟨g, 0, none⟩ o us
  | [], _, _ => trivial
  | u :: us, o, h => ⟨by have := h 0 u rfl; rwa [Addr.add_lit, Nat.zero_add], cellsAt_list us (o + 1) (fun j v hj => by have := h (j + 1) v (by simpa using hj); rwa [show o + 1 + j = o + (j + 1) by omega])⟩
theorem struct_load_blk {P : Program} {ops : Array Oper} {Q : Exit → Act → World → Prop} {rest : List Oper} {o : Oper} {a : Act} {W : World} (hgd : o.guard = none) (t : TypeId) (x : Operand) (ho : o.op = .load t x) {g e : Nat} {cells : Array Value} (haddr : a.eval x = .pointer (some ⟨g, 0, none⟩)) {d : TypeDesc}
    (hu : P.underlying t = some d) (hd : d.isRow = true) (hi : (P.info? t).map (·.size) = some cells.size) (hh : W.heap[g]? = some (.cells cells e (0, 0))) (h : wpList P ops Q rest (a.put o.dst (.agg cells)) W) : wpList P ops Q (o :: rest) a W := by
  refine struct_load hgd t x ho cells.toList haddr hu hd (by simpa using hi) (cellsAt_list cells.toList 0 (fun j u hj => ?_)) (by simpa using h)
  rw [Nat.zero_add, blk_cell hh]
  simpa using hj
/-! ### short words for printed texts (post2.py) -/
theorem gw {a g m : Nat} (hg : g = m) (h : a ≤ m) : Aside0 (a ≤ g) := ⟨hg ▸ h⟩
theorem gt {a b c : Nat} (h : Aside0 (a ≤ b)) (k : Aside0 (b ≤ c)) : Aside0 (a ≤ c) := ⟨Nat.le_trans h.out k.out⟩
theorem nt {a g m : Nat} (hg : g = m) (h : a < m) : Aside0 (a ≠ g) := ⟨hg ▸ Nat.ne_of_lt h⟩
theorem ng {a g m : Nat} (hg : g = m) (h : a < m) : Aside0 (g ≠ a) := ⟨hg ▸ Nat.ne_of_gt h⟩
theorem eT {α : Type} [BEq α] [LawfulBEq α] {a b : α} (h : a = b) : (a == b) = true ∧ (a != b) = false := ⟨beq_iff_eq.mpr h, bne_eq_false_iff_eq.mpr h⟩
theorem eF {α : Type} [BEq α] [LawfulBEq α] {a b : α} (h : ¬ a = b) : (a == b) = false ∧ (a != b) = true := ⟨beq_eq_false_iff_ne.mpr h, bne_iff_ne.mpr h⟩
theorem nq {α : Type} [BEq α] [LawfulBEq α] {a b c : α} (h : (a == b) = true) (e : (b == c) = false) : (a == c) = false ∧ (a != c) = true := by
  cases eq_of_beq h
  exact ⟨e, by simp [bne, e]⟩
theorem gs {P : Program} {ops : Array Oper} {Q : Exit → Act → World → Prop} {rest : List Oper} {oi : Oper} {a : Act} {w : World} (N : Option Tmp) (hd : oi.dst = N) (hg : oi.guard = none) {f : FuncId} {fn : Func} {as : Array Operand} {ts : Array TypeId} (hf : P.funcs[f]? = some fn) (args : Array Value)
    (hop : oi.op = .call { callee := .value (.func f), args := as, argTypes := ts }) (h : Calls P f args w fun e w' => ∃ v, e = .returned v ∧ wpList P ops Q rest (a.put N v) w')
    (hargs : as.map a.eval = args := by (try simp only [List.map_toArray, List.map_cons, List.map_nil]); first | done | rfl | (simp only [List.length_drop, List.length_take]; rfl))
    (hname : (fn.name == "runtime.NumGoroutine") = false := by kernel_rfl) (hb : fn.body.isSome = true := by rfl) : wpList P ops Q (oi :: rest) a w :=
  goesL_ N hd hg hf hname hb args hop hargs h
class Pb (g a b c : Nat) (cs : Array Value) (W W' : World) (cs' : outParam (Array Value)) : Prop where
  out : ∀ t : TypeId, g ≠ a → g ≠ b → g ≠ c → W.heap[g]? = some (.cells cs t (0, 0)) → W'.heap[g]? = some (.cells cs' t (0, 0))
section
variable {g a b c : Nat} {cs cs' : Array Value} {W W' : World}
instance Pb.refl : Pb g a b c cs W W cs := ⟨fun _ _ _ _ h => h⟩
instance Pb.alloc (o : Obj) [k : Pb g a b c cs W W' cs'] : Pb g a b c cs W (W'.alloc o) cs' := ⟨fun _ h1 h2 h3 h => blk_below (k.out _ h1 h2 h3 h) (below_alloc (Below.refl _ _) o)⟩
instance Pb.drewN (n : Nat) [k : Pb g a b c cs W W' cs'] : Pb g a b c cs W (W'.drewN n) cs' := ⟨fun _ h1 h2 h3 h => blk_below (k.out _ h1 h2 h3 h) (pw_below_drewN (Below.refl _ _) n)⟩
instance Pb.drew [k : Pb g a b c cs W W' cs'] : Pb g a b c cs W W'.drew cs' := ⟨fun _ h1 h2 h3 h => blk_below (k.out _ h1 h2 h3 h) (below_drew (Below.refl _ _))⟩
instance Pb.far3 (i : Nat) (u : Value) [k : Pb g a b c cs W W' cs'] : Pb g a b c cs W (W'.setCell ⟨c, i, none⟩ u) cs' := ⟨fun _ h1 h2 h3 h => blk_far (k.out _ h1 h2 h3 h) h3 u⟩
instance Pb.far2 (i : Nat) (u : Value) [k : Pb g a b c cs W W' cs'] : Pb g a b c cs W (W'.setCell ⟨b, i, none⟩ u) cs' := ⟨fun _ h1 h2 h3 h => blk_far (k.out _ h1 h2 h3 h) h2 u⟩
instance Pb.far1 (i : Nat) (u : Value) [k : Pb g a b c cs W W' cs'] : Pb g a b c cs W (W'.setCell ⟨a, i, none⟩ u) cs' := ⟨fun _ h1 h2 h3 h => blk_far (k.out _ h1 h2 h3 h) h1 u⟩
instance Pb.put (i : Nat) (u : Value) [k : Pb g a b c cs W W' cs'] : Pb g a b c cs W (W'.setCell ⟨g, i, none⟩ u) (cs'.setIfInBounds i u) := ⟨fun _ h1 h2 h3 h => blk_put (k.out _ h1 h2 h3 h) i u rfl⟩
theorem pb0 {t : TypeId} {cs2 : Array Value} (h : W.heap[g]? = some (.cells cs t (0, 0))) [k : Pb g (g + 1) (g + 1) (g + 1) cs W W' cs'] (e : cs' = cs2 := by first | (with_reducible rfl) | (simp only [List.setIfInBounds_toArray, List.set_cons_zero, List.set_cons_succ]; done) | rfl) : W'.heap[g]? = some (.cells cs2 t (0, 0)) := e ▸ k.out t (by omega) (by omega) (by omega) h
theorem pb1 {t : TypeId} {cs2 : Array Value} (ha : g ≠ a) (h : W.heap[g]? = some (.cells cs t (0, 0))) [k : Pb g a a a cs W W' cs'] (e : cs' = cs2 := by first | (with_reducible rfl) | (simp only [List.setIfInBounds_toArray, List.set_cons_zero, List.set_cons_succ]; done) | rfl) : W'.heap[g]? = some (.cells cs2 t (0, 0)) := e ▸ k.out t ha ha ha h
theorem pb2 {t : TypeId} {cs2 : Array Value} (ha : g ≠ a) (hb : g ≠ b) (h : W.heap[g]? = some (.cells cs t (0, 0))) [k : Pb g a b b cs W W' cs'] (e : cs' = cs2 := by first | (with_reducible rfl) | (simp only [List.setIfInBounds_toArray, List.set_cons_zero, List.set_cons_succ]; done) | rfl) : W'.heap[g]? = some (.cells cs2 t (0, 0)) := e ▸ k.out t ha hb hb h
theorem pb3 {t : TypeId} {cs2 : Array Value} (ha : g ≠ a) (hb : g ≠ b) (hc : g ≠ c) (h : W.heap[g]? = some (.cells cs t (0, 0))) [k : Pb g a b c cs W W' cs'] (e : cs' = cs2 := by first | (with_reducible rfl) | (simp only [List.setIfInBounds_toArray, List.set_cons_zero, List.set_cons_succ]; done) | rfl) : W'.heap[g]? = some (.cells cs2 t (0, 0)) := e ▸ k.out t ha hb hc h
end
class Ff (g E : Nat) (W W' : World) : Prop where
  out : ∀ w : World, Fr w W g E → Fr w W' g E
section
variable {g E : Nat} {w W W' : World}
instance Ff.refl : Ff g E W W := ⟨fun _ h => h⟩
instance Ff.alloc (o : Obj) [k : Ff g E W W'] : Ff g E W (W'.alloc o) := ⟨fun _ h => (k.out _ h).alloc o⟩
instance Ff.drewN (n : Nat) [k : Ff g E W W'] : Ff g E W (W'.drewN n) := ⟨fun _ h => (k.out _ h).drewN n⟩
instance Ff.drew [k : Ff g E W W'] : Ff g E W W'.drew := ⟨fun _ h => (k.out _ h).drew⟩
instance Ff.set (i : Nat) (u : Value) [k : Ff g E W W'] : Ff g E W (W'.setCell ⟨g, i, none⟩ u) := ⟨fun _ h => (k.out _ h).setg i u⟩
theorem fr (h : Fr w W g E) [k : Ff g E W W'] : Fr w W' g E := k.out _ h
end
end Go.Proofs.Ytdakdlgkhnjhoaa.Ext
