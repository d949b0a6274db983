/- A part of the proof of the seat's rows, said of the kit's own model: the rules that a walk uses. Conditions: as each theorem says. -/
import Derived.Test.YthhhklmdceieaaaAbE
namespace Go.Ab
open Go Go.RowKit
set_option linter.unusedVariables false
set_option linter.unusedSimpArgs false
/-! ### the rules by which a proof reckons, behind names that nothing opens -/
structure AW (P : Program) (c : Code) (Q : Exit → St → Prop) (s : St) : Prop where mk :: (out : AWp P c Q s)
structure Th (K : St → Prop) (Q : Exit → St → Prop) (e : Exit) (s : St) : Prop where mk :: (out : Then K Q e s)
structure IB (i : Nat) (Q : Exit → St → Prop) (e : Exit) (s : St) : Prop where mk :: (out : InBlock i Q e s)
structure En (P : Program) (rs : List ResultVar) (R : AV → Sg → Prop) (e : Exit) (s : St) : Prop where mk :: (out : Ends P rs R e s)
structure RV (P : Program) (ow : List Nat) (ops : Array Oper) (K : St → Prop) (l : List Oper) (s : St) : Prop where mk :: (out : rvc P ow ops K l s)
structure DV (P : Program) (ow : List Nat) (ops : Array Oper) (K : St → Prop) (l : List Nat) (rd : List (Nat × Nat)) (s : St) : Prop where mk :: (out : dvc P ow ops K l rd s)
section
variable {P : Program} {ow : List Nat} {ops : Array Oper} {K : St → Prop} {l : List Oper} {o : Oper} {s : St} {Q : Exit → St → Prop} {x y : Code} {c : Operand}
theorem AW.mono {Q' : Exit → St → Prop} (h : AW P x Q s) (k : ∀ e s, Q e s → Q' e s) : AW P x Q' s := ⟨h.out.mono k⟩
theorem AW.weak {s' : St} (h : AW P x Q s') (k : Sub s s') : AW P x Q s := ⟨h.out.weak k⟩
theorem q_nil (h : K s) : RV P ow ops K [] s := ⟨h⟩
theorem q_seq (h : AW P x (Th (AW P y Q) Q) s) : AW P (.seq x y) Q s := ⟨.seq (h.out.mono fun e s k => by
  have := k.out
  cases e with
  | normal => exact this.out
  | _ => exact this)⟩
theorem q_reg (ow : List Nat) {i : Nat} (h : RV P ow ops (Q .normal) ops.toList s) : AW P (.region i ops false) Q s := ⟨.region h.out⟩
theorem q_blk {i : Nat} (h : AW P x (IB i Q) s) : AW P (.block i x) Q s := ⟨.block (h.out.mono fun e s k => k.out)⟩
theorem q_skip (h : Q .normal s) : AW P .skip Q s := ⟨.skip h⟩
theorem q_exit {i : Nat} (h : Q (.exit i) s) : AW P (.exit i) Q s := ⟨.exit h⟩
theorem q_ret (h : Q .ret s) : AW P .ret Q s := ⟨.ret h⟩
theorem q_tn (h : K s) : Th K Q .normal s := ⟨h⟩
theorem q_te {i : Nat} (h : Q (.exit i) s) : Th K Q (.exit i) s := ⟨h⟩
theorem q_tr (h : Q .ret s) : Th K Q .ret s := ⟨h⟩
theorem q_bn {i : Nat} (h : Q .normal s) : IB i Q .normal s := ⟨h⟩
theorem q_br {i : Nat} (h : Q .ret s) : IB i Q .ret s := ⟨h⟩
theorem q_be {i : Nat} (h : Q .normal s) : IB i Q (.exit i) s := ⟨by rw [b_exit, if_pos rfl]; exact h⟩
theorem q_bo {i j : Nat} (e : (j == i) = false) (h : Q (.exit j) s) : IB i Q (.exit j) s := ⟨by rw [b_exit, if_neg (by simpa using e)]; exact h⟩
theorem q_if {b : Bool} (hc : look s c = some (.v (.bool b))) (ht : b = true → AW P x Q s) (hf : b = false → AW P y Q s) : AW P (.cond c x y) Q s := ⟨.cond hc (fun e => (ht e).out) (fun e => (hf e).out)⟩
theorem q_ct (hc : look s c = some (.v (.bool true))) (h : AW P x Q s) : AW P (.cond c x y) Q s := q_if hc (fun _ => h) (fun e => Bool.noConfusion e)
theorem q_cf (hc : look s c = some (.v (.bool false))) (h : AW P y Q s) : AW P (.cond c x y) Q s := q_if hc (fun e => Bool.noConfusion e) (fun _ => h)
theorem q_loop (I : Nat → St → Prop) {n : Nat} {s0 : St} (hs : Sub s s0) (h0 : I n s0) (round : ∀ n s, I n s → AW P x (Th (fun s' => ∃ k s0, k < n ∧ Sub s' s0 ∧ I k s0) Q) s) : AW P (.loop x) Q s :=
  ⟨AWp.loopS I hs h0 fun n s h => (round n s h).out.mono fun e s k => k.out⟩
theorem q_en {rs : List ResultVar} {R : AV → Sg → Prop} {l : List AV} {r : AV} {σ : Sg} (hl : resA P s rs = some l) (hr : (resV l).le r) (hσ : SgLe s.σ σ) (h : R r σ) : En P rs R .normal s := ⟨⟨l, r, σ, hl, hr, hσ, h⟩⟩
theorem q_er {rs : List ResultVar} {R : AV → Sg → Prop} {l : List AV} {r : AV} {σ : Sg} (hl : resA P s rs = some l) (hr : (resV l).le r) (hσ : SgLe s.σ σ) (h : R r σ) : En P rs R .ret s := ⟨⟨l, r, σ, hl, hr, hσ, h⟩⟩
theorem q_body {f : FuncId} {fn : Func} {n : Nat} {args : List AV} {σ : Sg} {R : AV → Sg → Prop} (hf : P.funcs[f]? = some fn) (hb : fn.body = some x) (he : enters P f = true) (hm : fn.ntmps = n) (hn : args.length ≤ n)
    (h : AW P x (En P fn.results.toList R) ⟨n, frL (args0 0 args), σ⟩) : ACalls P f args σ R := by
  subst hm
  exact ACalls.body' hf hb he hn (h.out.mono fun e s k => k.out)
theorem q_freeze {b t n cap sz : Nat} {cs : List AV} {es : List (List AV)} (ht : s.fr t = some (.v (.slice (some ⟨b, 0, none⟩) n cap))) (hb : s.σ.vars b = some cs) (hes : es.flatten = cs) (hn : es.length = n) (hsz : ∀ e ∈ es, e.length = sz) (hc : n ≤ cap)
    (h : AW P x Q ({ s with σ := { s.σ with vars := dropV s.σ.vars b } }.put t (.row sz es))) : AW P x Q s := ⟨AWp.freeze ht hb hes hn hsz hc h.out⟩
theorem q_val {v : AV} (hg : gate ops s o.guard = some true) (hw : isW' ow o = false) (hx : vop P s o.op = some v) (hd : dstOk s o.dst = true) (h : RV P ow ops K l (s.puto o.dst v)) : RV P ow ops K (o :: l) s := ⟨r_val hg hw hx hd h.out⟩
theorem q_not (hg : gate ops s o.guard = some false) (hd : dstOk s o.dst = true) (h : RV P ow ops K l (s.puto o.dst (.v undef))) : RV P ow ops K (o :: l) s := ⟨r_not hg hd h.out⟩
theorem q_w {vals : List AV} (hg : gate ops s o.guard = some true) (hw : isW' ow o = true) (hx : argsA s o.op.operands.toList = some vals) (hd : dstOk s o.dst = true) (h : AO P o vals s.σ fun r σ' => RV P ow ops K l ({ s with σ := σ' }.puto o.dst r)) : RV P ow ops K (o :: l) s := ⟨r_w hg hw hx hd (h.mono fun r σ' k => k.out)⟩
/-- The next operation tells yes or no. -/
theorem q_bool {b : Bool} (hg : gate ops s o.guard = some true) (hw : isW' ow o = false) (hx : vop P s o.op = some (.v (.bool b))) (hd : dstOk s o.dst = true) (ht : b = true → RV P ow ops K l (s.puto o.dst (.v (.bool true)))) (hf : b = false → RV P ow ops K l (s.puto o.dst (.v (.bool false)))) : RV P ow ops K (o :: l) s := by
  cases b
  · exact q_val hg hw hx hd (hf rfl)
  · exact q_val hg hw hx hd (ht rfl)
/-- The next operation's value, under another name. -/
theorem q_eq {v v' : AV} (e : v = v') (hg : gate ops s o.guard = some true) (hw : isW' ow o = false) (hx : vop P s o.op = some v) (hd : dstOk s o.dst = true) (h : RV P ow ops K l (s.puto o.dst v')) : RV P ow ops K (o :: l) s := by
  subst e; exact q_val hg hw hx hd h
theorem q_call {f : FuncId} {args : Array Operand} {ts : Array TypeId} {vals : List AV} (ho : o.op = .call { callee := .value (.func f), args := args, argTypes := ts }) (hg : gate ops s o.guard = some true) (hx : argsA s args.toList = some vals) (hd : dstOk s o.dst = true)
    (h : ACalls P f vals s.σ fun r σ' => RV P ow ops K l ({ s with σ := σ' }.puto o.dst r)) : RV P ow ops K (o :: l) s := by
  refine q_w (vals := .v (.func (.func f) #[] #[]) :: vals) hg ?_ ?_ hd (AO.call ho h)
  · unfold isW'; rw [ho]; rfl
  · rw [ho]; simp only [Op.operands, Call.operands, Array.toList_append, List.cons_append, List.nil_append, argsA, look, Option.bind_some, hx]
theorem q_load {t : TypeId} {p : Operand} {b off : Nat} {cs : List AV} {v : AV} (ho : o.op = .load t p) (hg : gate ops s o.guard = some true) (hd : dstOk s o.dst = true) (hp : look s p = some (.v (.pointer (some ⟨b, off, none⟩)))) (hv : s.σ.vars b = some cs) (hc : loadC P t (cs.drop off) = some v) (h : RV P ow ops K l (s.puto o.dst v)) : RV P ow ops K (o :: l) s :=
  q_val (v := v) hg (by unfold isW'; rw [ho]; rfl) (by rw [ho]; simp only [vop, rop, hp, Option.bind_some, loadA, hv]; exact hc) hd h
theorem q_store {t : TypeId} {p z : Operand} {b off n : Nat} {v : AV} {c0 cs : List AV} (ho : o.op = .store t p z) (hg : gate ops s o.guard = some true) (hd : dstOk s o.dst = true) (hp : look s p = some (.v (.pointer (some ⟨b, off, none⟩)))) (hz : look s z = some v) (hc : v.cells? = some cs) (hs : sizeT P t = some n) (hl : cs.length = n) (hb : s.σ.vars b = some c0) (hle : off + n ≤ c0.length)
    (h : RV P ow ops K l ({ s with σ := { s.σ with vars := upd s.σ.vars b (c0.take off ++ cs ++ c0.drop (off + n)) } }.puto o.dst (.v undef))) : RV P ow ops K (o :: l) s := by
  refine q_w (vals := [.v (.pointer (some ⟨b, off, none⟩)), v]) hg ?_ ?_ hd (AO.store ho hc hs hl hb hle h)
  · unfold isW'; rw [ho]; rfl
  · rw [ho]; simp only [Op.operands, argsA, hp, hz, Option.bind_some]
/-- An element of a row. -/
theorem q_idx {t e sz : Nat} {p i : Operand} {k : IntKind} {n : Int} {v : AV} {es : List (List AV)} (ho : o.op = .indexAddr t p i) (hg : gate ops s o.guard = some true) (hd : dstOk s o.dst = true) (he : elemT P t = some e) (hs : sizeT P e = some sz) (hi : look s i = some (.v (.int k n))) (hp : look s p = some v) (hr : v.rows? sz = some es) (h0 : 0 ≤ n) (h1 : n < es.length)
    (hv : indexV sz v n = none) (h : RV P ow ops K l (s.puto o.dst (.el (es.getD n.toNat [])))) : RV P ow ops K (o :: l) s :=
  q_val (v := .el (es.getD n.toNat [])) hg (by unfold isW'; rw [ho]; rfl) (by rw [ho]; simp only [vop, rop, he, hs, hi, hp, Option.bind_some, hr, hv, Option.none_or, indexA]; rw [if_pos ⟨h0, h1⟩]) hd h
/-- An element of a row that is a variable. -/
theorem q_idv {t e sz : Nat} {p i : Operand} {k : IntKind} {n : Int} {b off len cap j : Nat} (ho : o.op = .indexAddr t p i) (hg : gate ops s o.guard = some true) (hd : dstOk s o.dst = true) (he : elemT P t = some e) (hs : sizeT P e = some sz) (hi : look s i = some (.v (.int k n))) (hp : look s p = some (.v (.slice (some ⟨b, off, none⟩) len cap))) (hn : n = j) (h1 : j < len)
    (h : RV P ow ops K l (s.puto o.dst (.v (.pointer (some ⟨b, off + j * sz, none⟩))))) : RV P ow ops K (o :: l) s := by
  subst hn
  exact q_val (v := .v (.pointer (some ⟨b, off + j * sz, none⟩))) hg (by unfold isW'; rw [ho]; rfl) (by rw [ho]; simp only [vop, rop, he, hs, hi, hp, Option.bind_some, indexV]; rw [if_pos ⟨by omega, by omega⟩]; simp) hd h
theorem q_shr {t u : Nat} {p q : Operand} {k k' : IntKind} {a b : Int} (ho : o.op = .binOp .shr t p q u) (hg : gate ops s o.guard = some true) (hd : dstOk s o.dst = true) (hp : look s p = some (.v (.int k a))) (hq : look s q = some (.v (.int k' b))) (hb : 0 ≤ b)
    (h : RV P ow ops K l (s.puto o.dst (.v (.int k (a.fdiv (2 ^ min b.toNat k.bits)))))) : RV P ow ops K (o :: l) s :=
  q_val (v := .v (.int k (a.fdiv (2 ^ min b.toNat k.bits)))) hg (by unfold isW'; rw [ho]; rfl) (by rw [ho]; simp only [vop, rop, hp, hq, Option.bind_some, aBin]; rw [if_neg (by omega)]; rfl) hd h
/-- A piece of a row. -/
theorem q_cut {t e sz : Nat} {p : Operand} {lo hi : Option Operand} {v : AV} {es : List (List AV)} {lv hv : Option Int} {a b : Nat} (ho : o.op = .slice t p lo hi none) (hg : gate ops s o.guard = some true) (hd : dstOk s o.dst = true) (he : elemT P t = some e) (hs : sizeT P e = some sz) (hl : intO s lo = some lv) (hh : intO s hi = some hv) (hp : look s p = some v) (hr : v.rows? sz = some es) (ha : lv.getD 0 = a) (hb : hv.getD es.length = b) (hab : a ≤ b) (hbn : b ≤ es.length)
    (h : RV P ow ops K l (s.puto o.dst (.row sz ((es.take b).drop a)))) : RV P ow ops K (o :: l) s :=
  q_val (v := .row sz ((es.take b).drop a)) hg (by unfold isW'; rw [ho]; rfl) (by rw [ho]; simp only [vop, rop, he, hs, hl, hh, hp, Option.bind_some, hr, cutA, ha, hb]; simp; omega) hd h
/-! regions that draw -/
variable {L : List Nat} {i : Nat} {rd : List (Nat × Nat)}
theorem q_draw (ow : List Nat) {id : Nat} (L : List Nat) (hm : P.follows .mixedOrders = true) (hl : L.length = ops.size) (hL : okL ow ops L (Array.replicate ops.size false) = true) (h : DV P ow ops (Q .normal) L [] s) : AW P (.region id ops true) Q s := ⟨AWp.draw ow L hm hl hL h.out⟩
theorem p_nil (h : K s) : DV P ow ops K [] rd s := ⟨h⟩
theorem p_val {v : AV} (ho : ops[i]? = some o) (hg : gate ops s o.guard = some true) (hw : isW' ow o = false) (hx : vop P s o.op = some v) (hd : dstOk s o.dst = true) (h : DV P ow ops K L (rd ++ readOf s i o) (s.puto o.dst v)) : DV P ow ops K (i :: L) rd s := ⟨d_val ho hg hw hx hd h.out⟩
theorem p_bool {b : Bool} (ho : ops[i]? = some o) (hg : gate ops s o.guard = some true) (hw : isW' ow o = false) (hx : vop P s o.op = some (.v (.bool b))) (hd : dstOk s o.dst = true) (ht : b = true → DV P ow ops K L (rd ++ readOf s i o) (s.puto o.dst (.v (.bool true)))) (hf : b = false → DV P ow ops K L (rd ++ readOf s i o) (s.puto o.dst (.v (.bool false)))) : DV P ow ops K (i :: L) rd s := by
  cases b
  · exact p_val ho hg hw hx hd (hf rfl)
  · exact p_val ho hg hw hx hd (ht rfl)
theorem p_not (ho : ops[i]? = some o) (hg : gate ops s o.guard = some false) (hw : isW' ow o = false) (hd : dstOk s o.dst = true) (h : DV P ow ops K L (rd ++ readOf s i o) (s.puto o.dst (.v undef))) : DV P ow ops K (i :: L) rd s := ⟨d_not ho hg hd h.out fun e => by rw [hw] at e; cases e⟩
theorem p_notW (ho : ops[i]? = some o) (hg : gate ops s o.guard = some false) (hd : dstOk s o.dst = true) (h : DV P ow ops K L rd (s.puto o.dst (.v undef))) (hw : isW' ow o = true) : DV P ow ops K (i :: L) rd s := by
  refine ⟨?_⟩
  simp only [dvc, ho]
  unfold stepVC
  rw [hg]
  refine And.intro hd (And.intro (fun e => Bool.noConfusion e) (fun _ => ?_))
  simp only [hw, if_true]
  exact h.out
theorem p_w {vals : List AV} (ho : ops[i]? = some o) (hg : gate ops s o.guard = some true) (hw : isW' ow o = true) (hx : argsA s o.op.operands.toList = some vals) (hd : dstOk s o.dst = true) (h : AO P o vals s.σ fun r σ' => Stay o rd s.σ σ' ∧ DV P ow ops K L rd ({ s with σ := σ' }.puto o.dst r)) : DV P ow ops K (i :: L) rd s := ⟨d_w ho hg hw hx hd (h.mono fun r σ' k => ⟨k.1, k.2.out⟩)⟩
theorem p_call {f : FuncId} {args : Array Operand} {ts : Array TypeId} {vals : List AV} (ho : ops[i]? = some o) (ho' : o.op = .call { callee := .value (.func f), args := args, argTypes := ts }) (hg : gate ops s o.guard = some true) (hx : argsA s args.toList = some vals) (hd : dstOk s o.dst = true)
    (h : ACalls P f vals s.σ fun r σ' => Stay o rd s.σ σ' ∧ DV P ow ops K L rd ({ s with σ := σ' }.puto o.dst r)) : DV P ow ops K (i :: L) rd s := by
  refine p_w (vals := .v (.func (.func f) #[] #[]) :: vals) ho hg ?_ ?_ hd (AO.call ho' h)
  · unfold isW'; rw [ho']; rfl
  · rw [ho']; simp only [Op.operands, Call.operands, Array.toList_append, List.cons_append, List.nil_append, argsA, look, Option.bind_some, hx]
theorem p_load {t : TypeId} {p : Operand} {b off : Nat} {cs : List AV} {v : AV} (ho : ops[i]? = some o) (ho' : o.op = .load t p) (hg : gate ops s o.guard = some true) (hd : dstOk s o.dst = true) (hp : look s p = some (.v (.pointer (some ⟨b, off, none⟩)))) (hv : s.σ.vars b = some cs) (hc : loadC P t (cs.drop off) = some v) (h : DV P ow ops K L (rd ++ [(i, b)]) (s.puto o.dst v)) : DV P ow ops K (i :: L) rd s :=
  p_val (v := v) ho hg (by unfold isW'; rw [ho']; rfl) (by rw [ho']; simp only [vop, rop, hp, Option.bind_some, loadA, hv]; exact hc) hd (by
    have : readOf s i o = [(i, b)] := by unfold readOf; rw [ho']; simp only [hp]
    rw [this]; exact h)
theorem p_store {t : TypeId} {p z : Operand} {b off n : Nat} {v : AV} {c0 cs : List AV} (ho : ops[i]? = some o) (ho' : o.op = .store t p z) (hg : gate ops s o.guard = some true) (hd : dstOk s o.dst = true) (hp : look s p = some (.v (.pointer (some ⟨b, off, none⟩)))) (hz : look s z = some v) (hc : v.cells? = some cs) (hs : sizeT P t = some n) (hl : cs.length = n) (hb : s.σ.vars b = some c0) (hle : off + n ≤ c0.length)
    (hst : ∀ p ∈ rd, dep o p.1 = false → p.2 ≠ b) (h : DV P ow ops K L rd ({ s with σ := { s.σ with vars := upd s.σ.vars b (c0.take off ++ cs ++ c0.drop (off + n)) } }.puto o.dst (.v undef))) : DV P ow ops K (i :: L) rd s := by
  refine p_w (vals := [.v (.pointer (some ⟨b, off, none⟩)), v]) ho hg ?_ ?_ hd (AO.store ho' hc hs hl hb hle ⟨fun p hp hd => upd_ne _ (hst p hp hd), h⟩)
  · unfold isW'; rw [ho']; rfl
  · rw [ho']; simp only [Op.operands, argsA, hp, hz, Option.bind_some]
theorem stay_same {σ : Sg} : Stay o rd σ σ := fun _ _ _ => rfl
end
end Go.Ab
