/- A part of the proof of the seat's rows, said of the kit's own model: sizes and places of types, operators on told values. Conditions: as each theorem says. -/
import Derived.Test.YthhhklmdceieaaaAb1
namespace Go.Ab
open Go Go.RowKit
set_option linter.unusedVariables false
set_option linter.unusedSimpArgs false

/-! ### what a type's row says -/
def sizeT (P : Program) (t : TypeId) : Option Nat := (P.info? t).map (·.size)
def aggT (P : Program) (t : TypeId) : Option Bool := (P.underlying t).map fun | .struct _ | .array _ _ => true | _ => false
def intT (P : Program) (t : TypeId) : Option IntKind := (P.underlying t).bind fun | .int k => some k | _ => none
def boolT (P : Program) (t : TypeId) : Bool := (P.underlying t).any fun | .bool => true | _ => false
def ptrT (P : Program) (t : TypeId) : Bool := (P.underlying t).any fun | .pointer _ => true | _ => false
def strT (P : Program) (t : TypeId) : Bool := (P.underlying t).any fun | .string => true | _ => false
def elemT (P : Program) (t : TypeId) : Option TypeId := (P.underlying t).bind fun | .slice e => some e | _ => none
def fieldT (P : Program) (t : TypeId) (i : Nat) : Option (Nat × TypeId) := (P.underlying t).bind fun | .struct fs => (fs[i]?).map fun f => (f.offset, f.type) | _ => none
def offT (P : Program) (t : TypeId) (i : Nat) : Option Nat := (fieldT P t i).bind fun (o, u) => (sizeT P u).bind fun n => if n = 0 then none else some o
def zeroT (P : Program) (t : TypeId) : Option (List AV) := ((P.info? t).bind (·.zero)).bind fun z => if z.cells.toList.all (·.oneCell') then some (z.cells.toList.map .v) else none

theorem underlying_run {P : Program} {t : TypeId} {d : TypeDesc} (h : P.underlying t = some d) (w : World) : (underlying t).run P w = .ok d w := run_underlying h w
theorem sizeT_run {P : Program} {t n : Nat} (h : sizeT P t = some n) (w : World) : (sizeOf t).run P w = .ok n w := by
  unfold sizeT at h
  cases hi : P.info? t with
  | none => simp [hi] at h
  | some i => simp [hi] at h; simp [sizeOf, typeInfo, hi, h]
theorem aggT_run {P : Program} {t : Nat} {b : Bool} (h : aggT P t = some b) (w : World) : (isAgg t).run P w = .ok b w := by
  unfold aggT at h
  cases hi : P.underlying t with
  | none => simp [hi] at h
  | some d =>
    simp [hi] at h
    cases d <;> simp at h <;> subst h <;> simp [isAgg, run_underlying hi]
theorem add_at (b o k : Nat) : (⟨b, o, none⟩ : Addr).add k = ⟨b, o + k, none⟩ := by unfold Addr.add; split <;> simp_all

/-! ### operations that only look -/
def look (s : St) : Operand → Option AV
  | .tmp t => s.fr t
  | .const c => some (.v c)
  | .func f => some (.v (.func (.func f) #[] #[]))
  | .global _ => none
theorem look_eval {B : Nat} {w0 : World} {m : Imm} {s : St} {a : Act} {w : World} (h : Sim B w0 m s a w) {x : Operand} {v : AV} (hx : look s x = some v) : V m v (a.eval x) := by
  cases x with
  | tmp t =>
    obtain ⟨y, h1, h2⟩ := h.fr t v hx
    simpa [Act.eval, h1] using h2
  | const c => simp [look] at hx; subst hx; exact .v _
  | func f => simp [look] at hx; subst hx; exact .v _
  | global g => simp [look] at hx

def aBin (P : Program) (op : BinOp) (t : TypeId) : Value → Value → Option Value
  | .int k a, .int k' b =>
    match op with
    | .shl => if b < 0 then none else some (.int k (k.wrap (a * 2 ^ min b.toNat k.bits)))
    | .shr => if b < 0 then none else some (.int k (a.fdiv (2 ^ min b.toNat k.bits)))
    | op => if k ≠ k' then none else match op with
      | .add => some (.int k (k.wrap (a + b)))
      | .sub => some (.int k (k.wrap (a - b)))
      | .mul => some (.int k (k.wrap (a * b)))
      | .quo => if b = 0 then none else some (.int k (k.wrap (a.tdiv b)))
      | .rem => if b = 0 then none else some (.int k (a.tmod b))
      | .and => some (.int k (k.wrap (BitVec.ofInt k.bits a &&& BitVec.ofInt k.bits b).toNat))
      | .or => some (.int k (k.wrap (BitVec.ofInt k.bits a ||| BitVec.ofInt k.bits b).toNat))
      | .xor => some (.int k (k.wrap (BitVec.ofInt k.bits a ^^^ BitVec.ofInt k.bits b).toNat))
      | .eql => some (.bool (a == b))
      | .neq => some (.bool (a != b))
      | .lss => some (.bool (a < b))
      | .leq => some (.bool (a ≤ b))
      | .gtr => some (.bool (a > b))
      | .geq => some (.bool (a ≥ b))
      | _ => none
  | .bool a, .bool b => if boolT P t then (match op with | .eql => some (.bool (a == b)) | .neq => some (.bool (a != b)) | _ => none) else none
  | .string a, .string b => match op with | .eql => some (.bool (a.toList == b.toList)) | .neq => some (.bool !(a.toList == b.toList)) | _ => none
  | .pointer a, .pointer none => if ptrT P t then (match op with | .eql => some (.bool a.isNone) | .neq => some (.bool !a.isNone) | _ => none) else none
  | _, _ => none
theorem boolT_spec {P : Program} {t : TypeId} (h : boolT P t = true) : P.underlying t = some .bool := by
  unfold boolT at h; cases hd : P.underlying t with
  | none => simp [hd] at h
  | some d => cases d <;> simp [hd] at h; rfl
theorem ptrT_spec {P : Program} {t : TypeId} (h : ptrT P t = true) : ∃ e, P.underlying t = some (.pointer e) := by
  unfold ptrT at h; cases hd : P.underlying t with
  | none => simp [hd] at h
  | some d => cases d <;> simp [hd] at h; exact ⟨_, rfl⟩
theorem strT_spec {P : Program} {t : TypeId} (h : strT P t = true) : P.underlying t = some .string := by
  unfold strT at h; cases hd : P.underlying t with
  | none => simp [hd] at h
  | some d => cases d <;> simp [hd] at h; rfl
theorem elemT_spec {P : Program} {t e : TypeId} (h : elemT P t = some e) : P.underlying t = some (.slice e) := by
  unfold elemT at h; cases hd : P.underlying t with
  | none => simp [hd] at h
  | some d => cases d <;> simp [hd] at h; subst h; rfl
theorem intT_spec {P : Program} {t : TypeId} {k : IntKind} (h : intT P t = some k) : P.underlying t = some (.int k) := by
  unfold intT at h; cases hd : P.underlying t with
  | none => simp [hd] at h
  | some d => cases d <;> simp [hd] at h; subst h; rfl
theorem fieldT_spec {P : Program} {t i o u : Nat} (h : fieldT P t i = some (o, u)) : ∃ fs f, P.underlying t = some (.struct fs) ∧ fs[i]? = some f ∧ f.offset = o ∧ f.type = u := by
  unfold fieldT at h; cases hd : P.underlying t with
  | none => simp [hd] at h
  | some d =>
    cases d <;> simp [hd] at h
    obtain ⟨f, h1, h2, h3⟩ := h
    exact ⟨_, f, rfl, h1, h2, h3⟩
theorem eqGuard_run {P : Program} {op : BinOp} {t : TypeId} {x y : Operand} {a b : Value} (h : ∀ z, a ≠ .agg z) (h' : a ≠ .nilIface) (w : World) : (eqGuard op t x y a b).run P w = .ok () w := by
  unfold eqGuard
  cases a with
  | agg z => exact absurd rfl (h z)
  | nilIface => exact absurd rfl h'
  | _ => cases op <;> rfl
theorem equalIn_bool {P : Program} {t : TypeId} (hu : P.underlying t = some .bool) (d : Nat) (a b : Bool) (w : World) : (Op.equalIn (d + 1) t (.bool a) (.bool b)).run P w = .ok (a == b) w := by
  simp [Op.equalIn, run_underlying hu]
theorem equalIn_ptr {P : Program} {t e : TypeId} (hu : P.underlying t = some (.pointer e)) (d : Nat) (a : Option Addr) (w : World) : (Op.equalIn (d + 1) t (.pointer a) (.pointer none)).run P w = .ok a.isNone w := by
  cases a <;> simp [Op.equalIn, run_underlying hu]
theorem equal_bool {P : Program} {t : TypeId} (hu : P.underlying t = some .bool) (a b : Bool) (w : World) : (Op.equal t (.bool a) (.bool b)).run P w = .ok (a == b) w := equalIn_bool hu 9999 a b w
theorem equal_ptr {P : Program} {t e : TypeId} (hu : P.underlying t = some (.pointer e)) (a : Option Addr) (w : World) : (Op.equal t (.pointer a) (.pointer none)).run P w = .ok a.isNone w := equalIn_ptr hu 9999 a w
theorem aBin_run {P : Program} {op : BinOp} {t : TypeId} {a b c : Value} (h : aBin P op t a b = some c) (x y : Operand) (w : World) :
    (do eqGuard op t x y a b; binOp op t a b : Sem Value).run P w = .ok c w ∧ c.oneCell' = true := by
  cases a with
  | int k a =>
    cases b with
    | int k' b =>
      have e := eqGuard_run (P := P) (op := op) (t := t) (x := x) (y := y) (a := .int k a) (b := .int k' b) (by simp) (by simp) w
      rw [Sem.run_bind, e, Result.andThen_ok]
      unfold aBin at h
      cases op <;> simp only [] at h
      case shl => split at h <;> simp at h; subst h; simp [binOp, Op.shift, *, Value.oneCell']
      case shr => split at h <;> simp at h; subst h; simp [binOp, Op.shift, *, Value.oneCell']
      all_goals
        split at h
        · simp at h
        · rename_i hk
          obtain rfl : k = k' := by simpa using hk
          first
            | (split at h <;> simp at h; subst h; simp [binOp, Op.intDiv, *, Value.oneCell'])
            | (simp at h; try (subst h; simp [binOp, Op.intArith, Op.intBits, Op.intCmp, Value.oneCell']))
    | _ => simp [aBin] at h
  | bool a =>
    cases b with
    | bool b =>
      have e := eqGuard_run (P := P) (op := op) (t := t) (x := x) (y := y) (a := .bool a) (b := .bool b) (by simp) (by simp) w
      rw [Sem.run_bind, e, Result.andThen_ok]
      simp only [aBin] at h
      split at h
      · rename_i hb
        have hu := boolT_spec hb
        cases op <;> simp at h <;> subst h <;> simp [binOp, equal_bool hu, Value.oneCell'] <;> cases a <;> cases b <;> rfl
      · simp at h
    | _ => simp [aBin] at h
  | string a =>
    cases b with
    | string b =>
      have e := eqGuard_run (P := P) (op := op) (t := t) (x := x) (y := y) (a := .string a) (b := .string b) (by simp) (by simp) w
      rw [Sem.run_bind, e, Result.andThen_ok]
      simp only [aBin] at h
      cases op <;> simp at h <;> subst h <;> simp [binOp, Op.stringOp, Value.oneCell']
    | _ => simp [aBin] at h
  | pointer a =>
    cases b with
    | pointer b =>
      have e := eqGuard_run (P := P) (op := op) (t := t) (x := x) (y := y) (a := .pointer a) (b := .pointer b) (by simp) (by simp) w
      rw [Sem.run_bind, e, Result.andThen_ok]
      cases b with
      | some b => simp [aBin] at h
      | none =>
        simp only [aBin] at h
        split at h
        · rename_i hb
          obtain ⟨e', hu⟩ := ptrT_spec hb
          cases op <;> simp at h <;> subst h <;> simp [binOp, equal_ptr hu, Value.oneCell']
        · simp at h
    | _ => simp [aBin] at h
  | _ => simp [aBin] at h

def aUn (op : UnOp) : Value → Option Value
  | .int k n => match op with | .neg => some (.int k (k.wrap (0 - n))) | .xor => some (.int k (k.wrap (BitVec.ofInt k.bits (if k.signed then -1 else k.max) ^^^ BitVec.ofInt k.bits n).toNat)) | _ => none
  | .bool b => match op with | .not => some (.bool !b) | _ => none
  | _ => none
theorem aUn_run {P : Program} {op : UnOp} {a c : Value} (h : aUn op a = some c) (w : World) : (Op.unary op a).run P w = .ok c w ∧ c.oneCell' = true := by
  cases a <;> simp [aUn] at h
  · cases op <;> simp at h; subst h; simp [Op.unary, Value.oneCell']
  · cases op <;> simp at h <;> subst h <;> simp [Op.unary, Op.intArith, Op.intBits, Value.oneCell']

def AV.rows? (n : Nat) : AV → Option (List (List AV))
  | .row sz es => if sz = n then some es else none
  | .own h es => if h.sz = n then some es else none
  | .v (.slice none 0 0) => some []
  | _ => none
/-- The cells of what is stored. -/
def AV.cells? : AV → Option (List AV)
  | .agg cs => some cs
  | .tup _ => none
  | .v x => if x.oneCell' then some [.v x] else none
  | x => some [x]
theorem V.rows {m : Imm} {n : Nat} {x : AV} {y : Value} {es : List (List AV)} (h : V m x y) (hx : x.rows? n = some es) :
    (∃ a cap, y = .slice a 0 cap ∧ es = []) ∨ ∃ b o cap vs, y = .slice (some ⟨b, o, none⟩) es.length cap ∧ (∀ e ∈ es, e.length = n) ∧ VC m es.flatten vs ∧ Held m b o vs ∧ es.length ≤ cap := by
  cases h with
  | v x =>
    unfold AV.rows? at hx
    split at hx <;> simp_all
  | rowNil => simp [AV.rows?] at hx; exact .inl ⟨_, _, rfl, hx.2⟩
  | row a b c d => simp [AV.rows?] at hx; obtain ⟨rfl, rfl⟩ := hx; exact .inr ⟨_, _, _, _, rfl, a, b, c, d⟩
  | ownNil => simp [AV.rows?] at hx; exact .inl ⟨_, _, rfl, hx.2⟩
  | own a b c d => simp [AV.rows?] at hx; obtain ⟨rfl, rfl⟩ := hx; exact .inr ⟨_, _, _, _, rfl, a, b, c, d⟩
  | el a b => simp [AV.rows?] at hx
  | agg a => simp [AV.rows?] at hx
  | tup a => simp [AV.rows?] at hx
theorem V.cells {m : Imm} {x : AV} {y : Value} {cs : List AV} (h : V m x y) (hx : x.cells? = some cs) : VC m cs y.cells.toList := by
  cases h with
  | v x =>
    simp only [AV.cells?] at hx
    split at hx <;> simp at hx
    subst hx
    rename_i h1
    cases y <;> simp [Value.oneCell'] at h1 <;> exact .cons (.v _) rfl .nil
  | rowNil => simp [AV.cells?] at hx; subst hx; exact .cons .rowNil rfl .nil
  | row a b c d => simp [AV.cells?] at hx; subst hx; exact .cons (.row a b c d) rfl .nil
  | ownNil => simp [AV.cells?] at hx; subst hx; exact .cons .ownNil rfl .nil
  | own a b c d => simp [AV.cells?] at hx; subst hx; exact .cons (.own a b c d) rfl .nil
  | el a b => simp [AV.cells?] at hx; subst hx; exact .cons (.el a b) rfl .nil
  | agg a => simp [AV.cells?] at hx; subst hx; simpa [Value.cells] using a
  | tup a => simp [AV.cells?] at hx

def loadC (P : Program) (t : TypeId) (cs : List AV) : Option AV :=
  (aggT P t).bind fun g => if g then (sizeT P t).bind fun n => if n ≤ cs.length then some (.agg (cs.take n)) else none else cs.head?
theorem loadC_run {P : Program} {t : TypeId} {cs : List AV} {x : AV} {m : Imm} {vs : List Value} {b o : Nat} {w : World} (h : loadC P t cs = some x) (hv : VC m cs vs) (hc : ∀ j v, vs[j]? = some v → w.cell? ⟨b, o + j, none⟩ = some v) :
    ∃ y, (loadVar t ⟨b, o, none⟩).run P w = .ok y w ∧ V m x y := by
  unfold loadC at h
  obtain ⟨g, hg, h⟩ := Option.bind_eq_some_iff.1 h
  cases g with
  | false =>
    simp only [Bool.false_eq_true, if_false] at h
    cases cs with
    | nil => simp at h
    | cons c cs =>
      simp at h; subst h
      cases hv with
      | @cons _ u _ us a b' hr =>
        have := hc 0 u (by simp)
        simp only [Nat.add_zero] at this
        refine ⟨u, ?_, a⟩
        simp [loadVar, aggT_run hg, this]
  | true =>
    simp only [if_true] at h
    obtain ⟨n, hn, h⟩ := Option.bind_eq_some_iff.1 h
    split at h <;> simp at h
    rename_i hle
    subst h
    have hl := hv.length
    have e : (vs.take n).length = n := by simp; omega
    have := run_loadCells_list (P := P) w ⟨b, o, none⟩ (vs.take n) (fun j v hj => by
      rw [add_at]; refine hc j v ?_
      rw [List.getElem?_take] at hj; split at hj
      · exact hj
      · cases hj)
    rw [e] at this
    exact ⟨_, by simp [loadVar, aggT_run hg, sizeT_run hn, this], .agg (hv.take n)⟩

def ptrAdd (k : Nat) : AV → Option AV
  | .el cs => some (.el (cs.drop k))
  | .v (.pointer (some ⟨b, o, none⟩)) => some (.v (.pointer (some ⟨b, o + k, none⟩)))
  | _ => none
def loadA (P : Program) (σ : Sg) (t : TypeId) : AV → Option AV
  | .el cs => loadC P t cs
  | .v (.pointer (some ⟨b, o, none⟩)) => (σ.vars b).bind fun cs => loadC P t (cs.drop o)
  | _ => none
def partC (P : Program) (t : TypeId) (cs : List AV) (o : Nat) : Option AV :=
  (aggT P t).bind fun g => if g then (sizeT P t).bind fun n => if o + n ≤ cs.length then some (.agg ((cs.drop o).take n)) else none else cs[o]?
def indexA (es : List (List AV)) (i : Int) : Option AV := if 0 ≤ i ∧ i < es.length then some (.el (es.getD i.toNat [])) else none
def cutA (sz : Nat) (es : List (List AV)) (l h : Option Int) : Option AV :=
  if 0 ≤ l.getD 0 ∧ l.getD 0 ≤ h.getD es.length ∧ h.getD es.length ≤ es.length then some (.row sz ((es.take (h.getD es.length).toNat).drop (l.getD 0).toNat)) else none
def intO (s : St) : Option Operand → Option (Option Int)
  | none => some none
  | some x => (look s x).bind fun | .v (.int _ n) => some (some n) | _ => none
/-- A struct's fields laid over its zero value. -/
def layC (place : Nat → Option (Nat × Nat)) (cs : List AV) : List (Nat × List AV) → Option (List AV)
  | [] => some cs
  | (i, xs) :: r => (place i).bind fun (o, n) => if xs.length = n ∧ o + n ≤ cs.length then layC place (cs.take o ++ xs ++ cs.drop (o + n)) r else none
def partsA (s : St) : List (Nat × Operand) → Option (List (Nat × List AV))
  | [] => some []
  | (i, x) :: r => (look s x).bind fun v => v.cells?.bind fun cs => (partsA s r).bind fun t => some ((i, cs) :: t)
def placeT (P : Program) (t : TypeId) (i : Nat) : Option (Nat × Nat) := (fieldT P t i).bind fun (o, u) => (sizeT P u).bind fun n => some (o, n)
end Go.Ab
