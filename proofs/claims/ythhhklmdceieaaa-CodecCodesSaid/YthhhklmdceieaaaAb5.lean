/- A part of the proof of the seat's rows, said of the kit's own model: what is known of a state may be weakened; calls. Conditions: as each theorem says. -/
import Derived.Test.YthhhklmdceieaaaAb4
namespace Go.Ab
open Go Go.RowKit
set_option linter.unusedVariables false
set_option linter.unusedSimpArgs false

/-! ### what is forgotten -/
def AV.le (x x' : AV) : Prop := ∀ m y, V m x y → V m x' y
theorem AV.le_refl (x : AV) : x.le x := fun _ _ h => h
def CLe (cs cs' : List AV) : Prop := ∀ m vs, VC m cs vs → VC m cs' vs
theorem CLe.refl (cs : List AV) : CLe cs cs := fun _ _ h => h
structure SgLe (σ σ' : Sg) : Prop where
  vars : ∀ b cs, σ'.vars b = some cs → ∃ cs0, σ.vars b = some cs0 ∧ CLe cs0 cs
  tips : ∀ h n, σ'.tips h = some n → h.blk = none ∨ σ.tips h = some n
theorem SgLe.refl (σ : Sg) : SgLe σ σ := ⟨fun b cs h => ⟨cs, h, .refl _⟩, fun h n k => .inr k⟩
theorem SgLe.trans {a b c : Sg} (h : SgLe a b) (k : SgLe b c) : SgLe a c :=
  ⟨fun x cs hx => by
    obtain ⟨c0, h1, h2⟩ := k.vars x cs hx
    obtain ⟨c1, h3, h4⟩ := h.vars x c0 h1
    exact ⟨c1, h3, fun m vs hv => h2 m vs (h4 m vs hv)⟩, fun x n hx => by
    rcases k.tips x n hx with h1 | h1
    · exact .inl h1
    · exact h.tips x n h1⟩
theorem Inv.weak {B : Nat} {w0 : World} {m : Imm} {σ σ' : Sg} {w : World} (h : Inv B w0 m σ w) (k : SgLe σ σ') : Inv B w0 m σ' w := by
  have tip : ∀ hd n b, σ'.tips hd = some n → hd.blk = some b → σ.tips hd = some n := fun hd n b ht hb => by
    rcases k.tips hd n ht with e | e
    · rw [e] at hb; cases hb
    · exact e
  refine ⟨h.base, h.size, h.imm, fun b cs hb => ?_, fun hd n ht b hb => h.tip hd n (tip hd n b ht hb) b hb, fun b cs hd n hb ht e => ?_, fun h1 h2 n1 n2 b t1 t2 e1 e2 => h.sep2 h1 h2 n1 n2 b (tip h1 n1 b t1 e1) (tip h2 n2 b t2 e2) e1 e2⟩
  · obtain ⟨c0, h1, h2⟩ := k.vars b cs hb
    obtain ⟨a1, a2, vs, t, a3, a4⟩ := h.var b c0 h1
    exact ⟨a1, a2, vs, t, a3, h2 _ _ a4⟩
  · obtain ⟨c0, h1, h2⟩ := k.vars b cs hb
    exact h.sep b c0 hd n h1 (tip hd n b ht e) e
structure Sub (s s' : St) : Prop where
  n : s'.n = s.n
  fr : ∀ t x, s'.fr t = some x → ∃ x0, s.fr t = some x0 ∧ x0.le x
  σ : SgLe s.σ s'.σ
theorem Sim.weak {B : Nat} {w0 : World} {m : Imm} {s s' : St} {a : Act} {w : World} (h : Sim B w0 m s a w) (k : Sub s s') : Sim B w0 m s' a w :=
  ⟨h.inv.weak k.σ, fun t x hx => by
    obtain ⟨x0, h1, h2⟩ := k.fr t x hx
    obtain ⟨y, h3, h4⟩ := h.fr t x0 h1
    exact ⟨y, h3, h2 m y h4⟩, by rw [h.n, k.n], h.defers⟩

/-! ### code -/
def Lift (B : Nat) (w0 : World) (m : Imm) (Q : Exit → St → Prop) : Exit → Act → World → Prop := fun e a w => ∃ m' s, m.le m' ∧ Sim B w0 m' s a w ∧ Q e s
theorem Lift.le {B : Nat} {w0 : World} {m m' : Imm} (h : m.le m') {Q : Exit → St → Prop} {e : Exit} {a : Act} {w : World} (k : Lift B w0 m' Q e a w) : Lift B w0 m Q e a w := by
  obtain ⟨m2, s, h1, h2, h3⟩ := k
  exact ⟨m2, s, Imm.le_trans h h1, h2, h3⟩
def AWp (P : Program) (c : Code) (Q : Exit → St → Prop) (s : St) : Prop := ∀ B w0 m a w, Sim B w0 m s a w → c.wp P (Lift B w0 m Q) a w
def Then (K : St → Prop) (Q : Exit → St → Prop) : Exit → St → Prop
  | .normal, s => K s
  | e, s => Q e s
section
variable {P : Program} {Q : Exit → St → Prop} {s : St}
theorem AWp.mono {c : Code} {Q' : Exit → St → Prop} (h : AWp P c Q s) (k : ∀ e s, Q e s → Q' e s) : AWp P c Q' s := fun B w0 m a w hs =>
  wp_mono (h B w0 m a w hs) fun e a w ⟨m', s', h1, h2, h3⟩ => ⟨m', s', h1, h2, k _ _ h3⟩
theorem AWp.weak {c : Code} {s' : St} (h : AWp P c Q s') (k : Sub s s') : AWp P c Q s := fun B w0 m a w hs => h B w0 m a w (hs.weak k)
theorem AWp.skip (h : Q .normal s) : AWp P .skip Q s := fun B w0 m a w hs => wp_skip ⟨m, s, m.le_refl, hs, h⟩
theorem AWp.exit {i : Nat} (h : Q (.exit i) s) : AWp P (.exit i) Q s := fun B w0 m a w hs => wp_exit ⟨m, s, m.le_refl, hs, h⟩
theorem AWp.ret (h : Q .ret s) : AWp P .ret Q s := fun B w0 m a w hs => wp_ret ⟨m, s, m.le_refl, hs, h⟩
theorem AWp.seq {x y : Code} (h : AWp P x (Then (AWp P y Q) Q) s) : AWp P (.seq x y) Q s := fun B w0 m a w hs =>
  wp_seq (wp_mono (h B w0 m a w hs) fun e a w ⟨m', s', h1, h2, h3⟩ => by
    cases e with
    | normal => exact wp_mono (h3 B w0 m' a w h2) fun e a w k => k.le h1
    | _ => exact ⟨m', s', h1, h2, h3⟩)
theorem AWp.cond {c : Operand} {x y : Code} {b : Bool} (hc : look s c = some (.v (.bool b))) (ht : b = true → AWp P x Q s) (hf : b = false → AWp P y Q s) : AWp P (.cond c x y) Q s := fun B w0 m a w hs => by
  have e := look_eval hs hc
  generalize he : a.eval c = z at e
  cases e
  exact wp_cond_split he (fun t => ht t B w0 m a w hs) (fun t => hf t B w0 m a w hs)
def InBlock (i : Nat) (Q : Exit → St → Prop) : Exit → St → Prop
  | .exit j, s => if j = i then Q .normal s else Q (.exit j) s
  | e, s => Q e s
theorem AWp.block {i : Nat} {c : Code} (h : AWp P c (InBlock i Q) s) : AWp P (.block i c) Q s := fun B w0 m a w hs =>
  wp_block (wp_mono (h B w0 m a w hs) fun e a w ⟨m', s', h1, h2, h3⟩ => by
    cases e with
    | exit j =>
      by_cases e : j = i
      · simp only [InBlock, e, if_true] at h3; simp only [Exit.inBlock, e, if_true]; exact ⟨m', s', h1, h2, h3⟩
      · simp only [InBlock, if_neg e] at h3; simp only [Exit.inBlock, if_neg e]; exact ⟨m', s', h1, h2, h3⟩
    | _ => exact ⟨m', s', h1, h2, h3⟩)
theorem least {p : Nat → Prop} (h : ∃ n, p n) : ∃ n, p n ∧ ∀ k, p k → n ≤ k := by
  obtain ⟨n, hn⟩ := h
  induction n using Nat.strongRecOn with
  | _ n ih =>
    by_cases c : ∃ k, k < n ∧ p k
    · obtain ⟨k, h1, h2⟩ := c
      exact ih k h1 h2
    · exact ⟨n, hn, fun k hk => Nat.le_of_not_lt fun e => c ⟨k, e, hk⟩⟩
open Classical in
theorem AWp.loop {c : Code} (I : Nat → St → Prop) {n : Nat} (h0 : I n s) (round : ∀ n s, I n s → AWp P c (Then (fun s' => ∃ k, k < n ∧ I k s') Q) s) : AWp P (.loop c) Q s := fun B w0 m a w hs => by
  let J : Nat → Act → World → Prop := fun n a w => ∃ m' s', m.le m' ∧ Sim B w0 m' s' a w ∧ I n s'
  let μ : Act → World → Nat := fun a w => if h : ∃ n, J n a w then Classical.choose (least h) else 0
  refine wp_loop (fun a w => ∃ n, J n a w) μ ⟨n, m, s, m.le_refl, hs, h0⟩ ?_
  intro a w hI
  have hμ : μ a w = Classical.choose (least hI) := by simp only [μ]; rw [dif_pos hI]
  obtain ⟨m', s', h1, h2, h3⟩ := (Classical.choose_spec (least hI)).1
  refine wp_mono (round _ s' h3 B w0 m' a w h2) fun e a' w' ⟨m2, s2, h4, h5, h6⟩ => ?_
  cases e with
  | normal =>
    obtain ⟨k, hk, hk'⟩ := h6
    have hJ : ∃ n, J n a' w' := ⟨k, m2, s2, Imm.le_trans h1 h4, h5, hk'⟩
    refine ⟨hJ, ?_⟩
    have : μ a' w' = Classical.choose (least hJ) := by simp only [μ]; rw [dif_pos hJ]
    rw [this, hμ]
    exact Nat.lt_of_le_of_lt ((Classical.choose_spec (least hJ)).2 k ⟨m2, s2, Imm.le_trans h1 h4, h5, hk'⟩) hk
  | _ => exact ⟨m2, s2, Imm.le_trans h1 h4, h5, h6⟩
end

/-! ### operations -/
def AOp (P : Program) (o : Oper) (s : St) (K : St → Prop) : Prop := ∀ B w0 m a w, Sim B w0 m s a w → ∀ Qc, o.wp P a w (fun a' w' => ∃ m' s', m.le m' ∧ Sim B w0 m' s' a' w' ∧ K s') Qc
theorem AOp.mono {P : Program} {o : Oper} {s : St} {K K' : St → Prop} (h : AOp P o s K) (k : ∀ s, K s → K' s) : AOp P o s K' := fun B w0 m a w hs Qc =>
  Oper.wp_mono (fun a w ⟨m', s', h1, h2, h3⟩ => ⟨m', s', h1, h2, k _ h3⟩) (h B w0 m a w hs Qc)
def dstOk (s : St) (d : Option Nat) : Bool := match d with | some t => decide (t < s.n) | none => true
theorem dstOk_spec {s : St} {d : Option Nat} (h : dstOk s d = true) : ∀ t, d = some t → t < s.n := fun t e => by subst e; simpa [dstOk] using h
theorem AOp.val {P : Program} {o : Oper} {s : St} {K : St → Prop} {x : AV} (hx : vop P s o.op = some x) (hd : dstOk s o.dst = true) (h : K (s.puto o.dst x)) : AOp P o s K := fun B w0 m a w hs Qc => by
  obtain ⟨y, m', w', h1, h2, h3, h4⟩ := vop_run hs o hx
  unfold Oper.wp
  rw [h1]
  exact ⟨m', _, h3, hs.put h3 h4 (dstOk_spec hd) h2, h⟩
theorem AOp.skipped {P : Program} {o : Oper} {B : Nat} {w0 : World} {m : Imm} {s : St} {a : Act} {w : World} (hs : Sim B w0 m s a w) (hd : dstOk s o.dst = true) : Sim B w0 m (s.puto o.dst (.v undef)) (a.put o.dst undef) w :=
  hs.put m.le_refl hs.inv (dstOk_spec hd) (.v _)

def upd (f : Nat → Option (List AV)) (b : Nat) (x : List AV) : Nat → Option (List AV) := fun k => if k = b then some x else f k
def tipSet (T : Hdr → Option Nat) (h : Hdr) (n : Nat) : Hdr → Option Nat := fun k => if k = h ∧ k.blk.isSome = true then some n else T k
def Free (T : Hdr → Option Nat) (h : Hdr) : Prop := h.blk.isSome = true → T h = none

/-- A new variable. -/
theorem Inv.box {B : Nat} {w0 : World} {m : Imm} {σ : Sg} {w : World} (h : Inv B w0 m σ w) {cs : List AV} {vs : Array Value} (t : TypeId) (hv : VC m cs vs.toList) :
    σ.vars w.heap.size = none ∧ (∀ hd n, σ.tips hd = some n → hd.blk ≠ some w.heap.size) ∧ Inv B w0 m { σ with vars := upd σ.vars w.heap.size cs } (w.alloc (.cells vs t)) := by
  have fr : σ.vars w.heap.size = none := by
    cases hc : σ.vars w.heap.size with
    | none => rfl
    | some c => exact absurd (h.lt_var hc) (Nat.lt_irrefl _)
  have ft : ∀ hd n, σ.tips hd = some n → hd.blk ≠ some w.heap.size := fun hd n ht e => absurd (h.lt_tip ht e) (Nat.lt_irrefl _)
  refine ⟨fr, ft, h.base.alloc h.size _, by have := h.size; simp; omega, fun b o u hu => ?_, fun b c hb => ?_, fun hd n ht b hb => ?_, fun b c hd n hb ht e => ?_, h.sep2⟩
  · have := h.lt_imm hu
    rw [World.cell?_alloc_old _ _ _ (Nat.ne_of_lt this)]
    exact h.imm _ _ _ hu
  · by_cases e : b = w.heap.size
    · subst e
      simp only [upd, if_true, Option.some.injEq] at hb
      subst hb
      exact ⟨h.size, fun o => by
        cases hc : m w.heap.size o with
        | none => rfl
        | some u => exact absurd (h.lt_imm hc) (Nat.lt_irrefl _), vs, t, heap_new w _, hv⟩
    · simp only [upd, if_neg e] at hb
      obtain ⟨h1, h2, us, t', h3, h4⟩ := h.var b c hb
      exact ⟨h1, h2, us, t', by rw [heap_old (h.lt_var hb)]; exact h3, h4⟩
  · obtain ⟨h1, h2, h3, us, t', h4, h5⟩ := h.tip hd n ht b hb
    exact ⟨h1, h2, h3, us, t', by rw [heap_old (h.lt_tip ht hb)]; exact h4, h5⟩
  · by_cases e' : b = w.heap.size
    · subst e'; exact ft hd n ht e
    · simp only [upd, if_neg e'] at hb
      exact h.sep b c hd n hb ht e
theorem AOp.box {P : Program} {o : Oper} {s : St} {K : St → Prop} {t : TypeId} {x : Operand} {v : AV} {cs : List AV} (ho : o.op = .box t x) (hv : look s x = some v) (hc : v.cells? = some cs) (hd : dstOk s o.dst = true)
    (h : ∀ b, s.σ.vars b = none → (∀ hd n, s.σ.tips hd = some n → hd.blk ≠ some b) → K ({ s with σ := { s.σ with vars := upd s.σ.vars b cs } }.puto o.dst (.v (.pointer (some ⟨b, 0, none⟩))))) : AOp P o s K := fun B w0 m a w hs Qc => by
  have e := (look_eval hs hv).cells hc
  obtain ⟨h1, h2, h3⟩ := hs.inv.box t e
  have hr : (execOp a.eval o).run P w = .ok (.value (.pointer (some ⟨w.heap.size, 0, none⟩))) (w.alloc (.cells (a.eval x).cells t)) := by
    unfold execOp; rw [ho]; simp [Instr.box, newVar, newRow]
  unfold Oper.wp
  rw [hr]
  exact ⟨m, _, m.le_refl, hs.put m.le_refl h3 (dstOk_spec hd) (.v _), h _ h1 h2⟩
theorem AOp.alloc {P : Program} {o : Oper} {s : St} {K : St → Prop} {t : TypeId} {cs : List AV} (ho : o.op = .alloc t) (hc : zeroT P t = some cs) (hd : dstOk s o.dst = true)
    (h : ∀ b, s.σ.vars b = none → (∀ hd n, s.σ.tips hd = some n → hd.blk ≠ some b) → K ({ s with σ := { s.σ with vars := upd s.σ.vars b cs } }.puto o.dst (.v (.pointer (some ⟨b, 0, none⟩))))) : AOp P o s K := fun B w0 m a w hs Qc => by
  obtain ⟨i, u, hi, hu, hv⟩ := zeroT_spec hc m
  obtain ⟨h1, h2, h3⟩ := hs.inv.box t hv
  have hr : (execOp a.eval o).run P w = .ok (.value (.pointer (some ⟨w.heap.size, 0, none⟩))) (w.alloc (.cells u.cells t)) := by
    unfold execOp; rw [ho]; simp [Instr.alloc, zeroValue, typeInfo, hi, hu, newVar, newRow]; try rfl
  unfold Oper.wp
  rw [hr]
  exact ⟨m, _, m.le_refl, hs.put m.le_refl h3 (dstOk_spec hd) (.v _), h _ h1 h2⟩

/-- A store into a variable. -/
theorem Inv.set {B : Nat} {w0 : World} {m : Imm} {σ : Sg} {w : World} (h : Inv B w0 m σ w) {b : Nat} {c0 cs : List AV} (hb : σ.vars b = some c0) {vs vs' : Array Value} {t : TypeId} (hh : w.heap[b]? = some (.cells vs t (0, 0))) (hv : VC m cs vs'.toList) :
    Inv B w0 m { σ with vars := upd σ.vars b cs } (w.setRow b vs') := by
  have hB := (h.var b c0 hb).1
  have hm := (h.var b c0 hb).2.1
  have other : ∀ k, k ≠ b → (w.setRow b vs').heap[k]? = w.heap[k]? := fun k hk => by
    simp only [World.setRow, Array.getElem?_modify]; rw [if_neg (Ne.symm hk)]
  have size : (w.setRow b vs').heap.size = w.heap.size := by simp [World.setRow]
  refine ⟨h.base.trans ⟨rfl, rfl, rfl, by rw [size]; exact Nat.le_refl _, fun k hk => other k (by omega)⟩, by rw [size]; exact h.size, fun k o u hu => ?_, fun k c hk => ?_, fun hd n ht k hk => ?_, fun k c hd n hk ht => ?_, h.sep2⟩
  · have e : k ≠ b := fun e => by rw [e, hm] at hu; cases hu
    rw [World.cell?_of_block (w := w) (other k e)]
    exact h.imm _ _ _ hu
  · by_cases e : k = b
    · subst e
      simp only [upd, if_true, Option.some.injEq] at hk
      subst hk
      exact ⟨hB, hm, vs', t, setRow_heap w k vs vs' t _ hh, hv⟩
    · simp only [upd, if_neg e] at hk
      obtain ⟨h1, h2, us, t', h3, h4⟩ := h.var k c hk
      exact ⟨h1, h2, us, t', by rw [other k e]; exact h3, h4⟩
  · have e : k ≠ b := fun e => h.sep b c0 hd n hb ht (by rw [hk, e])
    obtain ⟨h1, h2, h3, us, t', h4, h5⟩ := h.tip hd n ht k hk
    exact ⟨h1, h2, h3, us, t', by rw [other k e]; exact h4, h5⟩
  · by_cases e : k = b
    · subst e; exact h.sep k c0 hd n hb ht
    · simp only [upd, if_neg e] at hk
      exact h.sep k c hd n hk ht
theorem AOp.store {P : Program} {o : Oper} {s : St} {K : St → Prop} {t : TypeId} {p x : Operand} {b off n : Nat} {v : AV} {c0 cs : List AV} (ho : o.op = .store t p x) (hp : look s p = some (.v (.pointer (some ⟨b, off, none⟩)))) (hv : look s x = some v) (hc : v.cells? = some cs)
    (hs : sizeT P t = some n) (hl : cs.length = n) (hb : s.σ.vars b = some c0) (hle : off + n ≤ c0.length) (hd : dstOk s o.dst = true)
    (h : K ({ s with σ := { s.σ with vars := upd s.σ.vars b (c0.take off ++ cs ++ c0.drop (off + n)) } }.puto o.dst (.v undef))) : AOp P o s K := fun B w0 m a w hsim Qc => by
  have e := (look_eval hsim hv).cells hc
  have ep := look_eval hsim hp
  generalize hpe : a.eval p = z at ep
  cases ep
  obtain ⟨_, _, vs, ty, hh, hvs⟩ := hsim.inv.var b c0 hb
  have l1 := e.length
  have l2 := hvs.length
  simp at l1 l2
  have hn : (a.eval x).cells.size = n := by omega
  have hst := run_storeCells_at P b off ty (a.eval x).cells.toList 0 vs w hh (by simp; omega) e.one
  have hr : (execOp a.eval o).run P w = .ok .skip (w.setRow b (vs.toList.take off ++ (a.eval x).cells.toList ++ vs.toList.drop (off + n)).toArray) := by
    unfold execOp; rw [ho]
    simp [Instr.storeAt, Instr.sureAddr, hpe, storeVar, sizeT_run hs, hn]
    simp [hn] at hst
    rw [hst]; simp
  unfold Oper.wp
  rw [hr]
  refine ⟨m, _, m.le_refl, hsim.put m.le_refl (hsim.inv.set hb hh (cs := c0.take off ++ cs ++ c0.drop (off + n)) ?_) (dstOk_spec hd) (.v _), h⟩
  simpa using ((hvs.take off).append e).append (hvs.drop (off + n))

/-! ### calls -/
def argsA (s : St) : List Operand → Option (List AV)
  | [] => some []
  | x :: r => (look s x).bind fun v => (argsA s r).bind fun t => some (v :: t)
theorem argsA_spec {B : Nat} {w0 : World} {m : Imm} {s : St} {a : Act} {w : World} (h : Sim B w0 m s a w) : ∀ {l : List Operand} {vs : List AV}, argsA s l = some vs → VT m vs (l.map a.eval)
  | [], vs, hp => by simp [argsA] at hp; subst hp; exact .nil
  | x :: l, vs, hp => by
    simp only [argsA] at hp
    obtain ⟨v, hv, hp⟩ := Option.bind_eq_some_iff.1 hp
    obtain ⟨t, ht, hp⟩ := Option.bind_eq_some_iff.1 hp
    simp at hp; subst hp
    exact .cons (look_eval h hv) (argsA_spec h ht)
def enters (P : Program) (f : FuncId) : Bool := (P.funcs[f]?).any fun fn => fn.body.isSome && fn.name != "runtime.NumGoroutine"
def ACalls (P : Program) (f : FuncId) (args : List AV) (σ : Sg) (R : AV → Sg → Prop) : Prop :=
  enters P f = true ∧ ∀ B w0 m w vs, Inv B w0 m σ w → VT m args vs → Calls P f vs.toArray w fun e w' => ∃ y r m' σ', e = .returned y ∧ V m' r y ∧ m.le m' ∧ Inv B w0 m' σ' w' ∧ R r σ'
theorem ACalls.mono {P : Program} {f : FuncId} {args : List AV} {σ : Sg} {R R' : AV → Sg → Prop} (h : ACalls P f args σ R) (k : ∀ r σ, R r σ → R' r σ) : ACalls P f args σ R' :=
  ⟨h.1, fun B w0 m w vs hi hv => (h.2 B w0 m w vs hi hv).mono fun e w' ⟨y, r, m', σ', h1, h2, h3, h4, h5⟩ => ⟨y, r, m', σ', h1, h2, h3, h4, k _ _ h5⟩⟩
theorem run_callFunc {P : Program} {f : FuncId} (h : enters P f = true) (args : Array Value) (w : World) : (callFunc f args).run P w = .ok (.enter f args) w := by
  unfold enters at h
  cases hf : P.funcs[f]? with
  | none => simp [hf] at h
  | some fn =>
    simp [hf] at h
    obtain ⟨h1, h2⟩ := h
    have h3 : fn.body.isNone = false := by cases hb : fn.body <;> simp_all
    simp [callFunc, hf, h2, h3]
    intro e; simp [e] at h1
theorem AOp.call {P : Program} {o : Oper} {s : St} {K : St → Prop} {f : FuncId} {args : Array Operand} {ts : Array TypeId} {vs : List AV} (ho : o.op = .call { callee := .value (.func f), args := args, argTypes := ts }) (hv : argsA s args.toList = some vs) (hd : dstOk s o.dst = true)
    (h : ACalls P f vs s.σ fun r σ' => K ({ s with σ := σ' }.puto o.dst r)) : AOp P o s K := fun B w0 m a w hs Qc => by
  have e := argsA_spec hs hv
  have hr : (execOp a.eval o).run P w = .ok (.enter f (args.map a.eval)) w := by
    unfold execOp; rw [ho]
    simp [resolve, Deferred.ofValue, Act.eval, invoke, run_callFunc h.1]
  unfold Oper.wp
  rw [hr]
  have hc := h.2 B w0 m w (args.toList.map a.eval) hs.inv e
  have ea : (args.toList.map a.eval).toArray = args.map a.eval := by apply Array.ext'; simp
  rw [ea] at hc
  refine hc.mono fun e w' hh => ?_
  obtain ⟨y, r, m', σ', h1, h2, h3, h4, h5⟩ := hh
  subst h1
  exact ⟨m', _, h3, hs.put h3 h4 (dstOk_spec hd) h2, h5⟩
end Go.Ab
