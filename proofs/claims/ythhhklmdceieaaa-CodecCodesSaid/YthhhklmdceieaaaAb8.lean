/- A part of the proof of the seat's rows, said of the kit's own model: guards, steps through a region, results. Conditions: as each theorem says. -/
import Derived.Test.YthhhklmdceieaaaAb7
namespace Go.Ab
open Go Go.RowKit
set_option linter.unusedVariables false
set_option linter.unusedSimpArgs false

/-- Operations that change what is written to, or call. -/
def isW : Op → Bool
  | .call { callee := .value _, .. } => true
  | .call { callee := .builtin .append, .. } => true
  | .box .. => true
  | .alloc _ => true
  | .makeSlice .. => true
  | .store .. => true
  | _ => false
def AO (P : Program) (o : Oper) (vals : List AV) (σ : Sg) (R : AV → Sg → Prop) : Prop :=
  ∀ (s : St) (K : St → Prop), s.σ = σ → argsA s o.op.operands.toList = some vals → dstOk s o.dst = true → (∀ r σ', R r σ' → K ({ s with σ := σ' }.puto o.dst r)) → AOp P o s K
theorem AO.mono {P : Program} {o : Oper} {vals : List AV} {σ : Sg} {R R' : AV → Sg → Prop} (h : AO P o vals σ R) (k : ∀ r σ', R r σ' → R' r σ') : AO P o vals σ R' := fun s K h1 h2 h3 h4 => h s K h1 h2 h3 fun r σ' hr => h4 r σ' (k r σ' hr)
/-- Does an operation go? -/
def gate (ops : Array Oper) (s : St) (g : Option (Nat × Bool)) : Option Bool :=
  match g with
  | none => some true
  | some (j, want) => match (ops[j]?).bind (·.dst) with
    | none => some false
    | some t => match s.fr t with
      | some (.v (.bool b)) => some (b == want)
      | some (.v (.tuple _)) => some false
      | _ => none
theorem gate_spec {B : Nat} {w0 : World} {m : Imm} {s : St} {a : Act} {w : World} (h : Sim B w0 m s a w) {ops : Array Oper} {o : Oper} {g : Bool} (hg : gate ops s o.guard = some g) : Region.wanted o (yielded ops a.tmps) = g := by
  unfold gate at hg
  unfold Region.wanted
  cases hc : o.guard with
  | none => simp [hc] at hg; simp [hg]
  | some p =>
    obtain ⟨j, want⟩ := p
    simp only [hc] at hg ⊢
    unfold yielded
    cases hd : (ops[j]?).bind (·.dst) with
    | none => simp [hd] at hg; subst hg; simp
    | some t =>
      simp only [hd] at hg
      cases hf : s.fr t with
      | none => simp [hf] at hg
      | some v =>
        obtain ⟨y, h1, h2⟩ := h.fr t v hf
        simp only [hf] at hg
        split at hg
        · rename_i b hb
          simp at hb; subst hb
          cases h2
          simp at hg; subst hg
          simp [h1]
        · rename_i b hb
          simp at hb; subst hb
          cases h2
          simp at hg; subst hg
          simp [h1]
        · simp at hg

/-- What has to hold behind an operation that changes something: what it is told to leave alone it leaves. -/
def contW (ob : Sg → Sg → Prop) (K : St → Prop) (s : St) (d : Option Nat) : AV → Sg → Prop := fun r σ' => ob s.σ σ' ∧ K ({ s with σ := σ' }.puto d r)
/-- ow: the slots whose new rows are to be appended to. -/
def isW' (ow : List Nat) (o : Oper) : Bool := isW o.op || match o.op, o.dst with | .buildSlice .., some d => ow.contains d | _, _ => false
def stepG (P : Program) (ow : List Nat) (ob : Sg → Sg → Prop) (o : Oper) (K : St → Prop) (s : St) : Prop :=
  if isW' ow o = true then match argsA s o.op.operands.toList with | some vals => AO P o vals s.σ (contW ob K s o.dst) | none => False
  else match vop P s o.op with | some x => K (s.puto o.dst x) | none => False
def stepVC (P : Program) (ow : List Nat) (ops : Array Oper) (ob : Sg → Sg → Prop) (o : Oper) (K : St → Prop) (s : St) : Prop :=
  dstOk s o.dst = true ∧ match gate ops s o.guard with
  | none => False
  | some g => (g = true → stepG P ow ob o K s) ∧ (g = false → K (s.puto o.dst (.v undef)))
theorem stepVC_sound {P : Program} {ow : List Nat} {ops : Array Oper} {ob : Sg → Sg → Prop} {i : Nat} {o : Oper} (ho : ops[i]? = some o) {K : St → Prop} {s : St} (h : stepVC P ow ops ob o K s) {B : Nat} {w0 : World} {m : Imm} {a : Act} {w : World} (hs : Sim B w0 m s a w) {Q : Exit → Act → World → Prop} {next : Act → World → Prop}
    (hn : ∀ m' s' a' w', m.le m' → Sim B w0 m' s' a' w' → K s' → next a' w') : wpOp P ops Q i next a w := by
  obtain ⟨hd, h⟩ := h
  cases hg : gate ops s o.guard with
  | none => simp [hg] at h
  | some g =>
    simp only [hg] at h
    have hw := gate_spec hs hg
    unfold wpOp
    simp only [ho, hw]
    cases g with
    | false =>
      simp only [Bool.false_eq_true, if_false]
      exact hn m _ _ w m.le_refl (AOp.skipped (P := P) hs hd) (h.2 rfl)
    | true =>
      simp only [if_true]
      refine .inl ?_
      have h1 := h.1 rfl
      unfold stepG at h1
      split at h1
      · split at h1
        · rename_i vals hv
          exact Oper.wp_mono (fun a' w' ⟨m', s', k1, k2, k3⟩ => hn m' s' a' w' k1 k2 k3) (h1 s K rfl hv hd (fun r σ' hr => hr.2) B w0 m a w hs Q)
        · exact h1.elim
      · split at h1
        · rename_i x hx
          exact Oper.wp_mono (fun a' w' ⟨m', s', k1, k2, k3⟩ => hn m' s' a' w' k1 k2 k3) (AOp.val hx hd h1 B w0 m a w hs Q)
        · exact h1.elim

/-- A region in its text's order. -/
def rvc (P : Program) (ow : List Nat) (ops : Array Oper) (K : St → Prop) : List Oper → St → Prop
  | [], s => K s
  | o :: l, s => stepVC P ow ops (fun _ _ => True) o (rvc P ow ops K l) s
theorem rvc_sound {P : Program} {ow : List Nat} {ops : Array Oper} {Q : Exit → St → Prop} : ∀ (l : List Nat) (os : List Oper) (s : St), l.map (fun i => ops[i]?) = os.map some → rvc P ow ops (Q .normal) os s → ∀ {B : Nat} {w0 : World} {m : Imm} {a : Act} {w : World}, Sim B w0 m s a w → wpOps P ops (Lift B w0 m Q) l a w
  | [], os, s, hl, h, B, w0, m, a, w, hs => by
    cases os with
    | nil => exact ⟨m, s, m.le_refl, hs, h⟩
    | cons o os => simp at hl
  | i :: l, os, s, hl, h, B, w0, m, a, w, hs => by
    cases os with
    | nil => simp at hl
    | cons o os =>
      simp at hl
      rw [wpOps_cons]
      refine stepVC_sound hl.1 h hs fun m' s' a' w' k1 k2 k3 => ?_
      have := rvc_sound l os s' (by simpa using hl.2) k3 k2
      refine wpOps_mono ?_ l this
      intro e a w hh
      exact hh.le k1
where
  wpOps_mono {P : Program} {ops : Array Oper} {Q Q' : Exit → Act → World → Prop} (hq : ∀ e a w, Q e a w → Q' e a w) : ∀ (l : List Nat) {a : Act} {w : World}, wpOps P ops Q l a w → wpOps P ops Q' l a w := by
    intro l
    induction l with
    | nil => intro a w h; exact hq _ _ _ h
    | cons i l ih =>
      intro a w h
      rw [wpOps_cons] at h ⊢
      unfold wpOp at h ⊢
      split
      · rename_i hn; simp only [hn] at h; exact ih h
      · rename_i o ho
        simp only [ho] at h
        split
        · rename_i hw
          simp only [hw, if_true] at h
          rcases h with h | ⟨h1, a0, w1, h2⟩
          · refine .inl ?_
            unfold Oper.wp at h ⊢
            generalize (execOp a.eval o).run P w = r at h ⊢
            cases r with
            | ok n w' =>
              cases n <;> simp only [Oper.upon] at h ⊢ <;> first
                | exact ih h
                | exact Calls.mono h (fun e w'' he => by cases e with
                    | returned v => exact ih he
                    | panicked c => exact hq _ _ _ he
                    | outgrown => obtain ⟨a0, w1, h2⟩ := he; exact ⟨a0, w1, hq _ _ _ h2⟩)
                | exact Rows.mono h (fun _ _ he => ih he)
            | halt x w' => cases x <;> simp only [Oper.upon] at h ⊢ <;> first | exact hq _ _ _ h | exact h
          · exact .inr ⟨h1, a0, w1, hq _ _ _ h2⟩
        · rename_i hw
          simp only [hw] at h
          exact ih h
theorem AWp.region {P : Program} {ow : List Nat} {id : Nat} {ops : Array Oper} {Q : Exit → St → Prop} {s : St} (h : rvc P ow ops (Q .normal) ops.toList s) : AWp P (.region id ops false) Q s := fun B w0 m a w hs =>
  wp_region (rvc_sound (List.range ops.size) ops.toList s (by
    apply List.ext_getElem?
    intro i
    rcases Nat.lt_or_ge i ops.size with hi | hi
    · simp [hi]
    · simp [hi]) h hs)

/-! ### code -/
def cvc (P : Program) (ow : List Nat) : Code → (Exit → St → Prop) → St → Prop
  | .skip, Q, s => Q .normal s
  | .exit i, Q, s => Q (.exit i) s
  | .ret, Q, s => Q .ret s
  | .seq x y, Q, s => cvc P ow x (Then (AWp P y Q) Q) s
  | .cond c x y, Q, s => match look s c with | some (.v (.bool b)) => (b = true → cvc P ow x Q s) ∧ (b = false → cvc P ow y Q s) | _ => False
  | .block i c, Q, s => cvc P ow c (InBlock i Q) s
  | .region _ ops false, Q, s => rvc P ow ops (Q .normal) ops.toList s
  | c, Q, s => AWp P c Q s
theorem cvc_sound {P : Program} {ow : List Nat} : ∀ (c : Code) {Q : Exit → St → Prop} {s : St}, cvc P ow c Q s → AWp P c Q s
  | .skip, _, _, h => .skip h
  | .exit i, _, _, h => .exit h
  | .ret, _, _, h => .ret h
  | .seq x y, Q, s, h => .seq (cvc_sound x h)
  | .cond c x y, Q, s, h => by
    simp only [cvc] at h
    split at h
    · rename_i b hc
      exact .cond hc (fun t => cvc_sound x (h.1 t)) (fun t => cvc_sound y (h.2 t))
    · exact h.elim
  | .block i c, _, _, h => .block (cvc_sound c h)
  | .region _ ops false, _, _, h => .region h
  | .region _ ops true, _, _, h => h
  | .loop c, _, _, h => h
  | .rangeFunc .., _, _, h => h
  | .scope _, _, _, h => h
  | .label _, _, _, h => h
  | .goto _, _, _, h => h
  | .refuse _, _, _, h => h

/-! ### a function's body -/
def frL (l : List (Nat × AV)) (t : Nat) : Option AV := (l.find? (·.1 == t)).map (·.2)
def args0 : Nat → List AV → List (Nat × AV)
  | _, [] => []
  | i, x :: r => (i, x) :: args0 (i + 1) r
theorem args0_get : ∀ (l : List AV) (k t : Nat) (x : AV), frL (args0 k l) t = some x → k ≤ t ∧ l[t - k]? = some x
  | [], k, t, x, h => by simp [frL, args0] at h
  | y :: l, k, t, x, h => by
    unfold frL at h
    simp only [args0, List.find?_cons] at h
    by_cases e : k = t
    · subst e; simp at h; simp [h]
    · have e' : (k == t) = false := by simp [e]
      simp only [e'] at h
      obtain ⟨h1, h2⟩ := args0_get l (k + 1) t x h
      refine ⟨by omega, ?_⟩
      rw [show t - k = (t - (k + 1)) + 1 by omega]
      simpa using h2
def resA (P : Program) (s : St) : List ResultVar → Option (List AV)
  | [] => some []
  | .tmp t :: r => (s.fr t).bind fun x => (resA P s r).bind fun l => some (x :: l)
  | .cell p t :: r => (s.fr p).bind fun q => (loadA P s.σ t q).bind fun x => (resA P s r).bind fun l => some (x :: l)
def resV : List AV → AV
  | [x] => x
  | l => .tup l
def Ends (P : Program) (rs : List ResultVar) (R : AV → Sg → Prop) : Exit → St → Prop
  | .normal, s => ∃ l r σ, resA P s rs = some l ∧ (resV l).le r ∧ SgLe s.σ σ ∧ R r σ
  | .ret, s => ∃ l r σ, resA P s rs = some l ∧ (resV l).le r ∧ SgLe s.σ σ ∧ R r σ
  | _, _ => False
def resF (tmps : Array Value) : ResultVar → Sem Value
  | .tmp t => pure (tmps.getD t undef)
  | .cell a t => do loadVar t (← asAddr (tmps.getD a undef))
theorem results_eq (fn : Func) (tmps : Array Value) : results fn tmps = (do let vs ← fn.results.mapM (resF tmps); pure (if h : vs.size = 1 then vs[0] else .tuple vs)) := by
  unfold results
  congr 1
theorem resA_run {P : Program} {B : Nat} {w0 : World} {m : Imm} {s : St} {a : Act} {w : World} (h : Sim B w0 m s a w) : ∀ {rs : List ResultVar} {l : List AV}, resA P s rs = some l →
    ∃ vs, (rs.mapM (resF a.tmps)).run P w = .ok vs w ∧ VT m l vs
  | [], l, hr => by simp [resA] at hr; subst hr; exact ⟨[], rfl, .nil⟩
  | .tmp t :: r, l, hr => by
    simp only [resA] at hr
    obtain ⟨x, hx, hr⟩ := Option.bind_eq_some_iff.1 hr
    obtain ⟨l', hl, hr⟩ := Option.bind_eq_some_iff.1 hr
    simp at hr; subst hr
    obtain ⟨vs, h1, h2⟩ := resA_run h hl
    obtain ⟨y, h3, h4⟩ := h.fr t x hx
    exact ⟨y :: vs, by simp [List.mapM_cons, h1, h3, resF], .cons h4 h2⟩
  | .cell p t :: r, l, hr => by
    simp only [resA] at hr
    obtain ⟨q, hq, hr⟩ := Option.bind_eq_some_iff.1 hr
    obtain ⟨x, hx, hr⟩ := Option.bind_eq_some_iff.1 hr
    obtain ⟨l', hl, hr⟩ := Option.bind_eq_some_iff.1 hr
    simp at hr; subst hr
    obtain ⟨vs, h1, h2⟩ := resA_run h hl
    obtain ⟨y, h3, h4⟩ := h.fr p q hq
    obtain ⟨z, h5, h6⟩ := loadA_run h.inv hx h4
    refine ⟨z :: vs, ?_, .cons h6 h2⟩
    have hy : ∃ ad, y = .pointer (some ad) := by
      unfold loadA at hx
      split at hx
      · cases h4; exact ⟨_, rfl⟩
      · cases h4; exact ⟨_, rfl⟩
      · simp at hx
    obtain ⟨ad, rfl⟩ := hy
    simp [Instr.loadAt, Instr.sureAddr] at h5
    simp [List.mapM_cons, h1, h3, resF, asAddr, h5]
theorem ACalls.body' {P : Program} {f : FuncId} {fn : Func} {c : Code} {args : List AV} {σ : Sg} {R : AV → Sg → Prop} (hf : P.funcs[f]? = some fn) (hb : fn.body = some c) (he : enters P f = true) (hn : args.length ≤ fn.ntmps)
    (h : AWp P c (Ends P fn.results.toList R) ⟨fn.ntmps, frL (args0 0 args), σ⟩) : ACalls P f args σ R := by
  refine ⟨he, fun B w0 m w vs hi hv => calls_of_wp hf hb ?_⟩
  have hl := hv.length
  have hs : Sim B w0 m ⟨fn.ntmps, frL (args0 0 args), σ⟩ { tmps := vs.toArray ++ Array.replicate (fn.ntmps - vs.toArray.size) undef, defers := [] } w := by
    refine ⟨hi, fun t x hx => ?_, by simp; omega, rfl⟩
    obtain ⟨_, h1⟩ := args0_get args 0 t x hx
    obtain ⟨y, h2, h3⟩ := hv.get h1
    refine ⟨y, ?_, h3⟩
    have hlt := (List.getElem?_eq_some_iff.1 h2).1
    simp only [Nat.sub_zero] at h2 hlt
    rw [Array.getElem?_append_left (by simpa using hlt)]
    simpa using h2
  refine wp_mono (h B w0 m _ w hs) fun e a' w' ⟨m', s', h1, h2, h3⟩ => ?_
  have fin : (∃ l r σ, resA P s' fn.results.toList = some l ∧ (resV l).le r ∧ SgLe s'.σ σ ∧ R r σ) → a'.defers = [] ∧ ∃ v, (results fn a'.tmps).run P w' = .ok v w' ∧ ∃ y r m' σ', Ending.returned v = .returned y ∧ V m' r y ∧ m.le m' ∧ Inv B w0 m' σ' w' ∧ R r σ' := fun ⟨l, r2, σ2, k1, kr, k2, k3⟩ => by
    obtain ⟨vs', k4, k5⟩ := resA_run h2 k1
    refine ⟨h2.defers, (if hh : vs'.toArray.size = 1 then vs'.toArray[0] else .tuple vs'.toArray), ?_, _, r2, m', σ2, rfl, kr _ _ ?_, h1, h2.inv.weak k2, k3⟩
    · have e1 : (fn.results.mapM (resF a'.tmps)).run P w' = .ok vs'.toArray w' := by
        rw [Array.mapM_eq_mapM_toList]
        simp only [Sem.run_map]
        rw [k4]; rfl
      rw [results_eq, Sem.run_bind, e1]; rfl
    · have hll := k5.length
      match l, vs', k5 with
      | [], [], _ => exact .tup .nil
      | [x], [y], .cons p .nil => exact p
      | x :: x2 :: l, y :: y2 :: vs', k5 => exact .tup k5
  cases e with
  | normal => exact fin h3
  | ret => exact fin h3
  | _ => exact h3.elim
end Go.Ab
