/- A part of the proof of the seat's rows, said of the kit's own model: calls, boxes, stores, appends as steps of a walk. Conditions: as each theorem says. -/
import Derived.Test.YthhhklmdceieaaaAb8
namespace Go.Ab
open Go Go.RowKit
set_option linter.unusedVariables false
set_option linter.unusedSimpArgs false
section
variable {P : Program} {o : Oper} {σ : Sg} {R : AV → Sg → Prop}
theorem argsA_cons {s : St} {x : Operand} {l : List Operand} {v : AV} {vs : List AV} (h : argsA s (x :: l) = some (v :: vs)) : look s x = some v ∧ argsA s l = some vs := by
  simp only [argsA] at h
  obtain ⟨a, h1, h⟩ := Option.bind_eq_some_iff.1 h
  obtain ⟨t, h2, h⟩ := Option.bind_eq_some_iff.1 h
  simp at h
  obtain ⟨rfl, rfl⟩ := h
  exact ⟨h1, h2⟩
theorem AO.call {f : FuncId} {args : Array Operand} {ts : Array TypeId} {vs : List AV} (ho : o.op = .call { callee := .value (.func f), args := args, argTypes := ts }) (h : ACalls P f vs σ R) : AO P o (.v (.func (.func f) #[] #[]) :: vs) σ R := fun s K e hv hd hk => by
  subst e
  have hv' : argsA s (.func f :: args.toList) = some (.v (.func (.func f) #[] #[]) :: vs) := by rw [ho] at hv; simpa [Op.operands, Call.operands] using hv
  exact AOp.call ho (argsA_cons hv').2 hd (h.mono hk)
theorem AO.box {t : TypeId} {x : Operand} {v : AV} {cs : List AV} (ho : o.op = .box t x) (hc : v.cells? = some cs)
    (h : ∀ b, σ.vars b = none → (∀ hd n, σ.tips hd = some n → hd.blk ≠ some b) → R (.v (.pointer (some ⟨b, 0, none⟩))) { σ with vars := upd σ.vars b cs }) : AO P o [v] σ R := fun s K e hv hd hk => by
  subst e
  rw [ho] at hv
  exact AOp.box ho (argsA_cons (l := []) (by simpa [Op.operands] using hv)).1 hc hd fun b h1 h2 => hk _ _ (h b h1 h2)
theorem AO.alloc {t : TypeId} {cs : List AV} (ho : o.op = .alloc t) (hc : zeroT P t = some cs)
    (h : ∀ b, σ.vars b = none → (∀ hd n, σ.tips hd = some n → hd.blk ≠ some b) → R (.v (.pointer (some ⟨b, 0, none⟩))) { σ with vars := upd σ.vars b cs }) : AO P o [] σ R := fun s K e hv hd hk => by
  subst e
  exact AOp.alloc ho hc hd fun b h1 h2 => hk _ _ (h b h1 h2)
theorem AO.store {t : TypeId} {p x : Operand} {b off n : Nat} {v : AV} {c0 cs : List AV} (ho : o.op = .store t p x) (hc : v.cells? = some cs) (hs : sizeT P t = some n) (hl : cs.length = n) (hb : σ.vars b = some c0) (hle : off + n ≤ c0.length)
    (h : R (.v undef) { σ with vars := upd σ.vars b (c0.take off ++ cs ++ c0.drop (off + n)) }) : AO P o [.v (.pointer (some ⟨b, off, none⟩)), v] σ R := fun s K e hv hd hk => by
  subst e
  rw [ho] at hv
  have h1 := argsA_cons (by simpa [Op.operands] using hv)
  exact AOp.store ho h1.1 (argsA_cons h1.2).1 hc hs hl hb hle hd (hk _ _ h)
theorem AO.append {x y : Operand} {t t' e : TypeId} {sz by_ : Nat} {v u : AV} {h : Hdr} {es ys : List (List AV)} {zs : List AV} {T : Hdr → Option Nat}
    (ho : o.op = .call { callee := .builtin .append, args := #[x, y], argTypes := #[t, t'] }) (he : elemT P t = some e) (ht' : notInt P t' = true) (hsz : sizeT P e = some sz) (hby : byteT P e = some by_) (hz : zeroT P e = some zs) (hzs : zs.length = sz)
    (hv : v.base? sz = some (h, es)) (hu : u.rows? sz = some ys) (hlen : (es.length + ys.length) * by_ ≤ 140737488355328) (hlen' : es.length + ys.length ≤ 9223372036854775807) (hT : σ.tips = tipSet T h es.length) (hF : Free T h)
    (hK : ∀ h', h'.sz = sz → Free T h' → R (.own h' (es ++ ys)) { σ with tips := tipSet T h' (es.length + ys.length) }) : AO P o [v, u] σ R := fun s K e0 hw hd hk => by
  subst e0
  rw [ho] at hw
  have h1 := argsA_cons (by simpa [Op.operands, Call.operands] using hw)
  exact AOp.append ho he ht' hsz hby hz hzs h1.1 hv (argsA_cons h1.2).1 hu hd hlen hlen' hT hF fun h' a b => hk _ _ (hK h' a b)
/-- Parts, out of their values. -/
def pz : List (Nat × Operand) → List AV → Option (List (Nat × List AV))
  | [], [] => some []
  | (i, _) :: l, v :: vs => v.cells?.bind fun cs => (pz l vs).bind fun t => some ((i, cs) :: t)
  | _, _ => none
theorem pz_spec {s : St} : ∀ {l : List (Nat × Operand)} {vs : List AV} {ps : List (Nat × List AV)}, argsA s (l.map (·.2)) = some vs → pz l vs = some ps → partsA s l = some ps
  | [], vs, ps, h, k => by simp [argsA] at h; subst h; simpa [pz, partsA] using k
  | (i, x) :: l, [], ps, h, k => by simp [pz] at k
  | (i, x) :: l, v :: vs, ps, h, k => by
    obtain ⟨h1, h2⟩ := argsA_cons h
    simp only [pz] at k
    obtain ⟨cs, hc, k⟩ := Option.bind_eq_some_iff.1 k
    obtain ⟨t, ht, k⟩ := Option.bind_eq_some_iff.1 k
    simp only [partsA, h1, Option.bind_some, hc, pz_spec h2 ht]
    exact k
/-- A new row that may be appended to. -/
theorem AO.bslice {t e sz len : Nat} {parts : Array (Nat × Operand)} {vals : List AV} {ps : List (Nat × List AV)} (ho : o.op = .buildSlice t len parts) (he : elemT P t = some e) (hs : sizeT P e = some sz) (hz : hasZ P e = true) (hps : pz parts.toList vals = some ps) (hd : denseB sz len ps = true)
    (h : ∀ h', h'.sz = sz → Free σ.tips h' → R (.own h' (ps.map (·.2))) { σ with tips := tipSet σ.tips h' len }) : AO P o vals σ R := fun s K e0 hv hdst hk B w0 m a w hsim Qc => by
  subst e0
  rw [ho] at hv
  have hps' := pz_spec (s := s) (by simpa [Op.operands] using hv) hps
  obtain ⟨h1, h2, r, h3, h4⟩ := bslice_run (P := P) hsim he hs hps' hz hd
  have hr : r.size = len * sz := by have := h3.length; rw [flat_len h1, h2] at this; simpa using this.symm
  obtain ⟨p1, p2, p3⟩ := Inv.tipNew (n := len) (c := len) (sz := sz) (h0 := ⟨none, 0, 0, 0⟩) (n0 := 0) hsim.inv (T := s.σ.tips) (by rw [tipSet_none rfl]) (fun e => by cases e) (us := r) (zs := #[]) e hr (Nat.le_refl _) (by simp)
  have hrun : (execOp a.eval o).run P w = .ok (.value (.slice (some ⟨w.heap.size, 0, none⟩) len len)) (w.alloc (.cells r e)) := by
    unfold execOp; rw [ho]; simp [h4]
  unfold Oper.wp
  rw [hrun]
  have hV := V.own (m := m.add w.heap.size r.toList) (es := ps.map (·.2)) (vs := r.toList) (b := w.heap.size) (o := 0) (cap := len) (sz := sz) h1 (h3.mono p1) (fun j v hj => by simp [Imm.add]; simpa using hj) (by omega)
  rw [h2] at hV
  refine ⟨_, _, p1, hsim.put p1 ?_ (dstOk_spec hdst) hV, hk _ _ (h ⟨some w.heap.size, 0, len, sz⟩ rfl p2)⟩
  simpa using p3
end
theorem put_fr' (s : St) (d t : Nat) (x : AV) : (s.put d x).fr t = if t = d then some x else s.fr t := rfl
theorem wrap_u8 (n : Int) (h0 : 0 ≤ n) (h : n < 256) : IntKind.u8.wrap n = n := by
  unfold IntKind.wrap; simp [IntKind.bits, IntKind.signed]; omega
theorem wrap_u64 (n : Int) (h0 : 0 ≤ n) (h : n < 18446744073709551616) : IntKind.u64.wrap n = n := by
  unfold IntKind.wrap; simp [IntKind.bits, IntKind.signed]; omega
theorem wrap_i64 (n : Int) (h0 : -9223372036854775808 ≤ n) (h : n < 9223372036854775808) : IntKind.i64.wrap n = n := by
  unfold IntKind.wrap; simp [IntKind.bits, IntKind.signed]; omega
section
variable {P : Program} {o : Oper} {σ : Sg} {R : AV → Sg → Prop}
/-- A new row of zeros, as a variable. -/
theorem AO.make {t e : TypeId} {x y : Operand} {k k' : IntKind} {n : Nat} {z : Value} {by_ : Nat} (ho : o.op = .makeSlice t x y) (he : elemT P t = some e) (hs : sizeT P e = some 1) (hby : byteT P e = some by_) (hz : (P.info? e).bind (·.zero) = some z) (hz1 : z.oneCell' = true) (hn : n * by_ ≤ 281474976710656) (hn' : n < 9223372036854775808)
    (h : ∀ b, σ.vars b = none → (∀ hd n, σ.tips hd = some n → hd.blk ≠ some b) → R (.v (.slice (some ⟨b, 0, none⟩) n n)) { σ with vars := upd σ.vars b (List.replicate n (.v z)) }) : AO P o [.v (.int k n), .v (.int k' n)] σ R := fun s K e0 hv hd hk B w0 m a w hsim Qc => by
  subst e0
  rw [ho] at hv
  have h1 := argsA_cons (by simpa [Op.operands] using hv)
  have e1 := look_eval hsim h1.1
  have e2 := look_eval hsim (argsA_cons h1.2).1
  generalize hx : a.eval x = v1 at e1
  generalize hy : a.eval y = v2 at e2
  cases e1
  cases e2
  obtain ⟨i, hi, hzi⟩ := Option.bind_eq_some_iff.1 hz
  have isz : i.size = 1 := by unfold sizeT at hs; simpa [hi] using hs
  have iby : i.bytes = by_ := by unfold byteT at hby; simpa [hi] using hby
  have hv1 : VC m (List.replicate n (.v z)) (Array.replicate n z).toList := by
    rw [Array.toList_replicate]
    clear h hn hn' hx hy hv h1
    induction n with
    | zero => exact .nil
    | succ n ih => exact .cons (.v z) hz1 ih
  obtain ⟨p1, p2, p3⟩ := hsim.inv.box e hv1
  have hzc : z.cells = #[z] := by cases z <;> first | rfl | (simp [Value.oneCell'] at hz1)
  have hw : IntKind.i64.wrap (n : Int) = n := wrap_i64 _ (by omega) (by omega)
  have hw0 : IntKind.i64.wrap 0 = 0 := by decide
  have hrep : (Array.range n).map (fun j => (#[z] : Array Value)[j % 1]!) = Array.replicate n z := by
    apply Array.ext'
    simp
    apply List.ext_getElem?
    intro j
    by_cases hj : j < n
    · simp [hj, Nat.mod_one]
    · simp [hj]
  have hrun : (execOp a.eval o).run P w = .ok (.value (.slice (some ⟨w.heap.size, 0, none⟩) n n)) (w.alloc (.cells (Array.replicate n z) e)) := by
    unfold execOp; rw [ho]
    have hb : ¬ ((281474976710656 : Int) < (by_ : Int) * (n : Int)) := by
      have : ((n * by_ : Nat) : Int) ≤ 281474976710656 := Int.ofNat_le.2 hn
      rw [Int.natCast_mul] at this
      rw [Int.mul_comm]; omega
    have hneg : ¬ ((n : Int) < 0) := by omega
    by_cases h0 : n = 0
    · subst h0
      simp [Instr.makeSlice, run_underlying (elemT_spec he), asInt, asIntOf, hx, hy, typeInfo, sizeOf, hi, isz, iby, newRow, hw0]
      rw [show (Array.map (fun x => (default : Value)) (Array.range 0)) = #[] by apply Array.ext'; simp]
    · simp [Instr.makeSlice, run_underlying (elemT_spec he), asInt, asIntOf, hx, hy, typeInfo, sizeOf, zeroValue, hi, hzi, isz, iby, hw, hb, hneg, h0, newRow, hzc]
      simp at hrep
      rw [hrep]
  unfold Oper.wp
  rw [hrun]
  exact ⟨m, _, m.le_refl, hsim.put m.le_refl p3 (dstOk_spec hd) (.v _), hk _ _ (h _ p1 p2)⟩
end
def dropV (f : Nat → Option (List AV)) (b : Nat) : Nat → Option (List AV) := fun k => if k = b then none else f k
/-- A variable that is never written to again: a row, told by what it holds. -/
theorem AWp.freeze {P : Program} {c : Code} {Q : Exit → St → Prop} {s : St} {b t n cap sz : Nat} {cs : List AV} {es : List (List AV)} (ht : s.fr t = some (.v (.slice (some ⟨b, 0, none⟩) n cap))) (hb : s.σ.vars b = some cs) (hes : es.flatten = cs) (hn : es.length = n) (hsz : ∀ e ∈ es, e.length = sz) (hc : n ≤ cap)
    (h : AWp P c Q ({ s with σ := { s.σ with vars := dropV s.σ.vars b } }.put t (.row sz es))) : AWp P c Q s := fun B w0 m a w hs => by
  obtain ⟨a1, a2, vs, ty, a3, a4⟩ := hs.inv.var b cs hb
  let m' : Imm := fun b' o' => if b' = b then vs[o']? else m b' o'
  have hle : m.le m' := fun b' o' u hu => by
    have : b' ≠ b := fun e => by rw [e, a2] at hu; cases hu
    simp only [m', if_neg this]; exact hu
  have hinv : Inv B w0 m' { s.σ with vars := dropV s.σ.vars b } w := by
    refine ⟨hs.inv.base, hs.inv.size, fun b' o' u hu => ?_, fun b' c' hc' => ?_, fun hd k ht b' hb' => ?_, fun b' c' hd k hc' ht => ?_, hs.inv.sep2⟩
    · by_cases e : b' = b
      · subst e
        simp only [m', if_true] at hu
        simp only [World.cell?, a3]
        simpa using hu
      · simp only [m', if_neg e] at hu
        exact hs.inv.imm _ _ _ hu
    · have e : b' ≠ b := fun e => by simp [dropV, e] at hc'
      simp only [dropV, if_neg e] at hc'
      obtain ⟨q1, q2, us, t', q3, q4⟩ := hs.inv.var b' c' hc'
      exact ⟨q1, fun o => by simp only [m', if_neg e]; exact q2 o, us, t', q3, q4.mono hle⟩
    · have e : b' ≠ b := fun e => hs.inv.sep b cs hd k hb ht (by rw [hb', e])
      obtain ⟨q1, q2, q3, us, t', q4, q5⟩ := hs.inv.tip hd k ht b' hb'
      exact ⟨q1, q2, fun o ho => by simp only [m', if_neg e]; exact q3 o ho, us, t', q4, q5⟩
    · have e : b' ≠ b := fun e => by simp [dropV, e] at hc'
      simp only [dropV, if_neg e] at hc'
      exact hs.inv.sep b' c' hd k hc' ht
  obtain ⟨y, h1, h2⟩ := hs.fr t _ ht
  cases h2
  have hlt : t < a.tmps.size := (Array.getElem?_eq_some_iff.1 h1).1
  have hrow : V m' (.row sz es) (.slice (some ⟨b, 0, none⟩) n cap) := by
    have := V.row (m := m') (es := es) (vs := vs.toList) (b := b) (o := 0) (cap := cap) (sz := sz) hsz (by rw [hes]; exact a4.mono hle) (fun j v hv => by simp only [m', if_true, Nat.zero_add]; simpa using hv) (by omega)
    rwa [hn] at this
  have hsim : Sim B w0 m' ({ s with σ := { s.σ with vars := dropV s.σ.vars b } }.put t (.row sz es)) a w := by
    refine ⟨hinv, fun u x hx => ?_, hs.n, hs.defers⟩
    simp only [put_fr'] at hx
    by_cases e : u = t
    · subst e
      simp only [if_true, Option.some.injEq] at hx
      subst hx
      exact ⟨_, h1, hrow⟩
    · rw [if_neg e] at hx
      obtain ⟨y, k1, k2⟩ := hs.fr u x hx
      exact ⟨y, k1, k2.mono hle⟩
  exact wp_mono (h B w0 m' a w hsim) fun e a w k => k.le hle
@[simp] theorem put_fr (s : St) (d t : Nat) (x : AV) : (s.put d x).fr t = if t = d then some x else s.fr t := rfl
@[simp] theorem put_σ (s : St) (d : Nat) (x : AV) : (s.put d x).σ = s.σ := rfl
@[simp] theorem put_n (s : St) (d : Nat) (x : AV) : (s.put d x).n = s.n := rfl
theorem upd_same (f : Nat → Option (List AV)) (b : Nat) (x : List AV) : upd f b x b = some x := by simp [upd]
theorem upd_ne {f : Nat → Option (List AV)} {b k : Nat} (x : List AV) (h : k ≠ b) : upd f b x k = f k := by simp [upd, h]
theorem own_le {h : Hdr} {es : List (List AV)} : (AV.own h es).le (.row h.sz es) := fun m y hv => by
  cases hv with
  | ownNil => exact .rowNil
  | own a b c d => exact .row a b c d
theorem SgLe.tip {f : Nat → Option (List AV)} {T : Hdr → Option Nat} {h : Hdr} {n : Nat} (hF : Free T h) : SgLe ⟨f, tipSet T h n⟩ ⟨f, T⟩ :=
  ⟨fun b cs hb => ⟨cs, hb, .refl _⟩, fun k j hk => by
    by_cases e : k = h
    · subst e
      cases hb : k.blk with
      | none => exact .inl rfl
      | some b => have := hF (by rw [hb]; rfl); simp only at hk; rw [this] at hk; cases hk
    · exact .inr (by simp [tipSet, e]; exact hk)⟩
theorem SgLe.var {f : Nat → Option (List AV)} {T : Hdr → Option Nat} {b : Nat} {cs : List AV} (h : f b = none) : SgLe ⟨upd f b cs, T⟩ ⟨f, T⟩ :=
  ⟨fun k c hk => ⟨c, by
    have e : k ≠ b := fun e => by simp only at hk; rw [e, h] at hk; cases hk
    simp only
    rw [upd_ne _ e]; exact hk, .refl _⟩, fun k j hk => .inr hk⟩

/-! ### the rules by which a proof reckons -/
def kon (P : Program) (ow : List Nat) (ops : Array Oper) (K : St → Prop) (l : List Oper) : St → Prop := fun s => rvc P ow ops K l s
section
variable {P : Program} {ow : List Nat} {ops : Array Oper} {K : St → Prop} {l : List Oper} {o : Oper} {s : St} {Q : Exit → St → Prop} {x y : Code}
theorem r_nil : rvc P ow ops K [] s = K s := rfl
theorem r_cons : rvc P ow ops K (o :: l) s = stepVC P ow ops (fun _ _ => True) o (kon P ow ops K l) s := rfl
theorem r_kon : kon P ow ops K l s = rvc P ow ops K l s := rfl
theorem r_skip : cvc P ow .skip Q s = Q .normal s := rfl
theorem r_exit {i : Nat} : cvc P ow (.exit i) Q s = Q (.exit i) s := rfl
theorem r_ret : cvc P ow .ret Q s = Q .ret s := rfl
theorem r_seq : cvc P ow (.seq x y) Q s = cvc P ow x (Then (AWp P y Q) Q) s := rfl
theorem r_block {i : Nat} : cvc P ow (.block i x) Q s = cvc P ow x (InBlock i Q) s := rfl
theorem r_region {i : Nat} : cvc P ow (.region i ops false) Q s = rvc P ow ops (Q .normal) ops.toList s := rfl
theorem r_draw {i : Nat} : cvc P ow (.region i ops true) Q s = AWp P (.region i ops true) Q s := rfl
theorem r_loop : cvc P ow (.loop x) Q s = AWp P (.loop x) Q s := rfl
theorem t_normal : Then K Q .normal s = K s := rfl
theorem t_exit {i : Nat} : Then K Q (.exit i) s = Q (.exit i) s := rfl
theorem t_ret : Then K Q .ret s = Q .ret s := rfl
theorem b_normal {i : Nat} : InBlock i Q .normal s = Q .normal s := rfl
theorem b_ret {i : Nat} : InBlock i Q .ret s = Q .ret s := rfl
theorem b_exit {i j : Nat} : InBlock i Q (.exit j) s = if j = i then Q .normal s else Q (.exit j) s := rfl
theorem c_app {ob : Sg → Sg → Prop} {d : Option Nat} {r : AV} {σ : Sg} : contW ob K s d r σ = (ob s.σ σ ∧ K ({ s with σ := σ }.puto d r)) := rfl
/-- The next operation only looks. -/
theorem r_val {v : AV} (hg : gate ops s o.guard = some true) (hw : isW' ow o = false) (hx : vop P s o.op = some v) (hd : dstOk s o.dst = true) (h : rvc P ow ops K l (s.puto o.dst v)) : rvc P ow ops K (o :: l) s := by
  rw [r_cons]
  unfold stepVC stepG
  rw [hg]
  refine And.intro hd (And.intro (fun _ => ?_) (fun e => Bool.noConfusion e))
  rw [if_neg (by simp [hw]), hx]
  exact h
/-- The next operation doesn't go. -/
theorem r_not (hg : gate ops s o.guard = some false) (hd : dstOk s o.dst = true) (h : rvc P ow ops K l (s.puto o.dst (.v undef))) : rvc P ow ops K (o :: l) s := by
  rw [r_cons]
  unfold stepVC
  rw [hg]
  exact And.intro hd (And.intro (fun e => Bool.noConfusion e) (fun _ => h))
/-- The next operation goes or not. -/
theorem r_split {b : Bool} (hg : gate ops s o.guard = some b) (h1 : b = true → rvc P ow ops K (o :: l) s) (h0 : b = false → rvc P ow ops K (o :: l) s) : rvc P ow ops K (o :: l) s := by
  cases b
  · exact h0 rfl
  · exact h1 rfl
/-- The next operation changes something. -/
theorem r_w {vals : List AV} (hg : gate ops s o.guard = some true) (hw : isW' ow o = true) (hx : argsA s o.op.operands.toList = some vals) (hd : dstOk s o.dst = true) (h : AO P o vals s.σ fun r σ' => rvc P ow ops K l ({ s with σ := σ' }.puto o.dst r)) : rvc P ow ops K (o :: l) s := by
  rw [r_cons]
  unfold stepVC stepG
  rw [hg]
  refine And.intro hd (And.intro (fun _ => ?_) (fun e => Bool.noConfusion e))
  rw [if_pos hw, hx]
  exact h.mono fun r σ' h => ⟨trivial, h⟩
theorem r_cond {c : Operand} {b : Bool} (hc : look s c = some (.v (.bool b))) (ht : b = true → cvc P ow x Q s) (hf : b = false → cvc P ow y Q s) : cvc P ow (.cond c x y) Q s := by
  simp only [cvc, hc]
  exact ⟨ht, hf⟩
end
end Go.Ab
