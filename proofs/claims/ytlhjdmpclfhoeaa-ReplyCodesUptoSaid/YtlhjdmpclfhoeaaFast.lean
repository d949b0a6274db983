/- Steps through a region of many operations, the tmps being told by single entries: a walk whose cost doesn't grow with the region's or the frame's size. -/
import Derived.Test.YtlhjdmpclfhoeaaExt
namespace Go.Proofs.Ytlhjdmpclfhoeaa.Fast
open Go.RowKit Go.Proofs.YtlhjdmpclfhoeaaW.PrintWords Go.Proofs.YtlhjdmpclfhoeaaW.PrintLast Go.Proofs.YtlhjdmpclfhoeaaW.PrintMore

def IsOp (ops : Array Oper) (n : Nat) (op : Op) (d : Tmp) (g : Option (Nat × Bool)) : Prop := ∃ o : Oper, ops[n]? = some o ∧ o.op = op ∧ o.dst = some d ∧ o.guard = g
theorem drop_at {ops : Array Oper} {n : Nat} {o : Oper} (h : ops[n]? = some o) : ops.toList.drop n = o :: ops.toList.drop (n + 1) := by
  obtain ⟨hn, e⟩ := Array.getElem?_eq_some_iff.1 h
  rw [List.drop_eq_getElem_cons (by simpa using hn)]
  simp [e]
def On (ops : Array Oper) (T : Array Value) : Option (Nat × Bool) → Prop
  | none => True
  | some (j, b) => yielded ops T j = some b
section
variable {P : Program} {ops : Array Oper} {Q : Exit → Act → World → Prop} {D : List Deferred} {T : Array Value} {w : World} {n : Nat} {d : Tmp}
def At (P : Program) (ops : Array Oper) (Q : Exit → Act → World → Prop) (D : List Deferred) (n : Nat) (T : Array Value) (w : World) : Prop := wpList P ops Q (ops.toList.drop n) ⟨T, D⟩ w
theorem off {op : Op} {j : Nat} {b : Bool} (h : IsOp ops n op d (some (j, b))) (hy : yielded ops T j ≠ some b) (k : At P ops Q D (n + 1) (T.setIfInBounds d undef) w) : At P ops Q D n T w := by
  obtain ⟨o, h1, h2, h3, h4⟩ := h
  unfold At
  rw [drop_at h1]
  refine wpList_step fun K hK => ?_
  have hw : Region.wanted o (yielded ops T) = false := by simpa [Region.wanted, h4] using hy
  rw [if_neg (by rw [hw]; decide)]
  refine hK _ _ ?_
  unfold At at k
  simpa only [Act.put, h3] using k
theorem wants {o : Oper} {g : Option (Nat × Bool)} (h4 : o.guard = g) (hw : On ops T g) : Region.wanted o (yielded ops T) = true := by
  unfold Region.wanted
  rw [h4]
  cases g with
  | none => rfl
  | some p =>
    obtain ⟨j, b⟩ := p
    simpa [On] using hw
theorem on {op : Op} {g : Option (Nat × Bool)} {v : Value} {w' : World} (h : IsOp ops n op d g) (hw : On ops T g) (hr : ∀ o : Oper, o.op = op → (execOp (Act.eval ⟨T, D⟩) o).run P w = .ok (.value v) w') (k : At P ops Q D (n + 1) (T.setIfInBounds d v) w') : At P ops Q D n T w := by
  obtain ⟨o, h1, h2, h3, h4⟩ := h
  unfold At
  rw [drop_at h1]
  refine wpList_step fun K hK => ?_
  rw [if_pos (wants h4 hw)]
  unfold Oper.wp
  rw [hr o h2, Oper.upon_value]
  refine hK _ _ ?_
  unfold At at k
  simpa only [Act.put, h3] using k
theorem evalT {t : Tmp} {v : Value} (h : T[t]? = some v) : Act.eval ⟨T, D⟩ (.tmp t) = v := by
  simp [Act.eval, Array.getD_eq_getD_getElem?, h]
theorem mv {s : Tmp} {g : Option (Nat × Bool)} {v : Value} (h : IsOp ops n (.move (.tmp s)) d g) (hw : On ops T g) (hs : T[s]? = some v) (k : At P ops Q D (n + 1) (T.setIfInBounds d v) w) : At P ops Q D n T w :=
  on h hw (fun o ho => by simp only [execOp, ho, evalT hs]; rfl) k
theorem asg {s : Tmp} {g : Option (Nat × Bool)} {v : Value} (h : IsOp ops n (.assign (.tmp s)) d g) (hw : On ops T g) (hs : T[s]? = some v) (k : At P ops Q D (n + 1) (T.setIfInBounds d v) w) : At P ops Q D n T w :=
  on h hw (fun o ho => by simp only [execOp, ho, evalT hs]; rfl) k
theorem pk {c : Tmp} {x y : Operand} {g : Option (Nat × Bool)} {b : Bool} {v : Value} (h : IsOp ops n (.pick (.tmp c) x y) d g) (hw : On ops T g) (hc : T[c]? = some (.bool b)) (hv : Act.eval ⟨T, D⟩ (if b then x else y) = v) (k : At P ops Q D (n + 1) (T.setIfInBounds d v) w) : At P ops Q D n T w :=
  on h hw (fun o ho => by subst hv; simp only [execOp, ho, evalT hc]; cases b <;> rfl) k
theorem eq {s : Tmp} {kd : IntKind} {t t' : TypeId} {m x : Int} {g : Option (Nat × Bool)} (h : IsOp ops n (.binOp .eql t (.tmp s) (.const (.int kd m)) t') d g) (hw : On ops T g) (hs : T[s]? = some (.int kd x)) (k : At P ops Q D (n + 1) (T.setIfInBounds d (.bool (x == m))) w) : At P ops Q D n T w :=
  on h hw (fun o ho => by simp only [execOp, ho, evalT hs]; simp [go_sem, Act.eval]) k
theorem nt {s : Tmp} {t : TypeId} {b : Bool} {g : Option (Nat × Bool)} (h : IsOp ops n (.unOp .not t (.tmp s)) d g) (hw : On ops T g) (hs : T[s]? = some (.bool b)) (k : At P ops Q D (n + 1) (T.setIfInBounds d (.bool !b)) w) : At P ops Q D n T w :=
  on h hw (fun o ho => by simp only [execOp, ho, evalT hs]; rfl) k
theorem ln {s : Tmp} {t : TypeId} {A : Option Addr} {m c : Nat} {g : Option (Nat × Bool)} (hv : ∀ ty : TypeId, (Builtin.len_ #[t] ty #[.slice A m c]).run P w = .ok (.int .i64 m) w) (h : IsOp ops n (.call { callee := .builtin .len, args := #[.tmp s], argTypes := #[t] }) d g) (hw : On ops T g) (hs : T[s]? = some (.slice A m c)) (k : At P ops Q D (n + 1) (T.setIfInBounds d (.int .i64 m)) w) : At P ops Q D n T w :=
  on h hw (fun o ho => by simp only [execOp, ho]; simp [go_sem, hs, hv]) k
theorem eqk {s : Tmp} {kd : IntKind} {t t' : TypeId} {m x : Int} {b : Bool} {g : Option (Nat × Bool)} (h : IsOp ops n (.binOp .eql t (.tmp s) (.const (.int kd m)) t') d g) (hw : On ops T g) (hs : T[s]? = some (.int kd x)) (hb : (x == m) = b) (k : At P ops Q D (n + 1) (T.setIfInBounds d (.bool b)) w) : At P ops Q D n T w :=
  eq h hw hs (by rw [hb]; exact k)
theorem ntk {s : Tmp} {t : TypeId} {b c : Bool} {g : Option (Nat × Bool)} (h : IsOp ops n (.unOp .not t (.tmp s)) d g) (hw : On ops T g) (hs : T[s]? = some (.bool b)) (hc : (!b) = c) (k : At P ops Q D (n + 1) (T.setIfInBounds d (.bool c)) w) : At P ops Q D n T w :=
  nt h hw hs (by rw [hc]; exact k)
theorem run_next {s : Sem Value} {u : Value} {w w' : World} (h : s.run P w = .ok u w') : (s >>= fun x => pure (Next.value x) : Sem Next).run P w = .ok (.value u) w' := by
  have e : (s >>= fun x => pure (Next.value x) : Sem Next).run P w = (s.run P w).andThen fun a w' => .ok (Next.value a) w' := by simp [go_sem]
  rw [e, h]; rfl
theorem ad {s : Tmp} {t f : Nat} {v u : Value} {g : Option (Nat × Bool)} (h : IsOp ops n (.fieldAddr t (.tmp s) f) d g) (hw : On ops T g) (hs : T[s]? = some v) (hv : (Instr.fieldAt t v f).run P w = .ok u w) (k : At P ops Q D (n + 1) (T.setIfInBounds d u) w) : At P ops Q D n T w :=
  on h hw (fun o ho => by simp only [execOp, ho, evalT hs]; exact run_next hv) k
theorem ld {s : Tmp} {t : Nat} {v u : Value} {g : Option (Nat × Bool)} (h : IsOp ops n (.load t (.tmp s)) d g) (hw : On ops T g) (hs : T[s]? = some v) (hv : (Instr.loadAt t v).run P w = .ok u w) (k : At P ops Q D (n + 1) (T.setIfInBounds d u) w) : At P ops Q D n T w :=
  on h hw (fun o ho => by simp only [execOp, ho, evalT hs]; exact run_next hv) k
theorem cl {s : Tmp} {t : Nat} {v : Value} {g : Option (Nat × Bool)} {f : FuncId} {fn : Func} (h : IsOp ops n (.call { callee := .value (.func f), args := #[.tmp s], argTypes := #[t] }) d g) (hw : On ops T g) (hf : P.funcs[f]? = some fn) (hname : (fn.name == "runtime.NumGoroutine") = false) (hb : fn.body.isSome = true) (hs : T[s]? = some v)
    (hc : Calls P f #[v] w fun e w' => ∃ u, e = .returned u ∧ At P ops Q D (n + 1) (T.setIfInBounds d u) w') : At P ops Q D n T w := by
  obtain ⟨o, h1, h2, h3, h4⟩ := h
  unfold At
  rw [drop_at h1]
  refine wpList_step fun K hK => ?_
  rw [if_pos (wants h4 hw)]
  unfold Oper.wp
  have he := enters_ hf hname hb #[v] w
  have e1 : T[s]?.getD undef = v := by rw [hs]; rfl
  have hrun : (execOp (Act.eval ⟨T, D⟩) o).run P w = .ok (.enter f #[v]) w := by
    unfold execOp
    simp [h2, resolve, Deferred.ofValue, invoke, Act.eval, e1, he]
  rw [hrun, Oper.upon_enter]
  refine hc.mono fun e w'' hh => ?_
  obtain ⟨u, rfl, hk⟩ := hh
  refine hK _ _ ?_
  unfold At at hk
  simpa only [Act.put, h3] using hk
theorem yl {j : Nat} {op : Op} {e : Tmp} {g : Option (Nat × Bool)} {b : Bool} (h : IsOp ops j op e g) (hT : T[e]? = some (.bool b)) : yielded ops T j = some b := by
  obtain ⟨o, h1, h2, h3, h4⟩ := h
  simp [yielded, h1, h3, hT]
theorem yn {j : Nat} {op : Op} {e : Tmp} {g : Option (Nat × Bool)} {b : Bool} {v : Value} (h : IsOp ops j op e g) (hT : T[e]? = some v) (hv : v ≠ .bool b) : yielded ops T j ≠ some b := by
  obtain ⟨o, h1, h2, h3, h4⟩ := h
  simp only [yielded, h1, h3, hT, Option.bind_some]
  intro hh
  split at hh
  · rename_i b' hb'
    rw [Option.some.inj hh] at hb'
    exact hv (Option.some.inj hb')
  · cases hh
theorem fin {ops : Array Oper} (hn : ops.size = n) (h : Q .normal ⟨T, D⟩ w) : At P ops Q D n T w := by
  unfold At
  rw [List.drop_of_length_le (by simp [hn])]
  exact h
theorem start (h : At P ops Q D 0 T w) : wpList P ops Q ops.toList ⟨T, D⟩ w := h
theorem reg {id : Nat} {ops' : Array Oper} {a : Act} (e : ops' = ops) (h : At P ops' Q a.defers 0 a.tmps w) : (Code.region id ops false).wp P Q a w := by
  subst e
  exact wp_region_list h
theorem q5 {a b c d e R : Prop} (k : a → b → c → d → e → R) (ha : a := by simp only [Array.getElem?_setIfInBounds, Array.size_setIfInBounds, Nat.reduceEqDiff, Nat.reduceLT, reduceIte, Bool.true_and, Bool.false_and, Bool.true_or, Bool.or_true, Bool.false_or, Bool.or_false, Bool.not_true, Bool.not_false, *]) (hb : b := by simp only [Array.getElem?_setIfInBounds, Array.size_setIfInBounds, Nat.reduceEqDiff, Nat.reduceLT, reduceIte, Bool.true_and, Bool.false_and, Bool.true_or, Bool.or_true, Bool.false_or, Bool.or_false, Bool.not_true, Bool.not_false, *]) (hc : c := by simp only [Array.getElem?_setIfInBounds, Array.size_setIfInBounds, Nat.reduceEqDiff, Nat.reduceLT, reduceIte, Bool.true_and, Bool.false_and, Bool.true_or, Bool.or_true, Bool.false_or, Bool.or_false, Bool.not_true, Bool.not_false, *]) (hd : d := by simp only [Array.getElem?_setIfInBounds, Array.size_setIfInBounds, Nat.reduceEqDiff, Nat.reduceLT, reduceIte, Bool.true_and, Bool.false_and, Bool.true_or, Bool.or_true, Bool.false_or, Bool.or_false, Bool.not_true, Bool.not_false, *]) (he : e := by simp only [Array.getElem?_setIfInBounds, Array.size_setIfInBounds, Nat.reduceEqDiff, Nat.reduceLT, reduceIte, Bool.true_and, Bool.false_and, Bool.true_or, Bool.or_true, Bool.false_or, Bool.or_false, Bool.not_true, Bool.not_false, *]) : R := k ha hb hc hd he
theorem q2 {a b R : Prop} (k : a → b → R) (ha : a := by simp only [Array.getElem?_setIfInBounds, Array.size_setIfInBounds, Nat.reduceEqDiff, Nat.reduceLT, reduceIte, Bool.true_and, Bool.false_and, Bool.true_or, Bool.or_true, Bool.false_or, Bool.or_false, Bool.not_true, Bool.not_false, *]) (hb : b := by simp only [Array.getElem?_setIfInBounds, Array.size_setIfInBounds, Nat.reduceEqDiff, Nat.reduceLT, reduceIte, Bool.true_and, Bool.false_and, Bool.true_or, Bool.or_true, Bool.false_or, Bool.or_false, Bool.not_true, Bool.not_false, *]) : R := k ha hb
theorem isOp_of {op : Op} {g : Option (Nat × Bool)} (h : (ops[n]?).map (fun o => (o.op, o.dst, o.guard)) = some (op, some d, g)) : IsOp ops n op d g := by
  obtain ⟨o, h1, h2⟩ := Option.map_eq_some_iff.1 h
  simp only [Prod.mk.injEq] at h2
  exact ⟨o, h1, h2.1, h2.2.1, h2.2.2⟩
theorem yl' {j : Nat} {op : Op} {e : Tmp} {g : Option (Nat × Bool)} {b : Bool} (h : IsOp ops j op e g) (hT : T[e]? = some (.bool b) := by simp only [Array.getElem?_setIfInBounds, Array.size_setIfInBounds, Nat.reduceEqDiff, Nat.reduceLT, reduceIte, *]) : yielded ops T j = some b := yl h hT
theorem yn' {j : Nat} {op : Op} {e : Tmp} {g : Option (Nat × Bool)} {b : Bool} (v : Value) (h : IsOp ops j op e g) (hT : T[e]? = some v := by simp only [Array.getElem?_setIfInBounds, Array.size_setIfInBounds, Nat.reduceEqDiff, Nat.reduceLT, reduceIte, *]) (hv : v ≠ .bool b := by first | (intro h_; cases h_; done) | simp [undef]) : yielded ops T j ≠ some b := yn h hT hv
theorem mv' (v : Value) {s : Tmp} {g : Option (Nat × Bool)} (h : IsOp ops n (.move (.tmp s)) d g) (hw : On ops T g) (k : At P ops Q D (n + 1) (T.setIfInBounds d v) w) (hs : T[s]? = some v := by simp only [Array.getElem?_setIfInBounds, Array.size_setIfInBounds, Nat.reduceEqDiff, Nat.reduceLT, reduceIte, *]) : At P ops Q D n T w := mv h hw hs k
theorem as' (v : Value) {s : Tmp} {g : Option (Nat × Bool)} (h : IsOp ops n (.assign (.tmp s)) d g) (hw : On ops T g) (k : At P ops Q D (n + 1) (T.setIfInBounds d v) w) (hs : T[s]? = some v := by simp only [Array.getElem?_setIfInBounds, Array.size_setIfInBounds, Nat.reduceEqDiff, Nat.reduceLT, reduceIte, *]) : At P ops Q D n T w := asg h hw hs k
theorem pkt' (b : Bool) (z : Tmp) (v : Value) {c : Tmp} {x y : Operand} {g : Option (Nat × Bool)} (h : IsOp ops n (.pick (.tmp c) x y) d g) (hw : On ops T g) (k : At P ops Q D (n + 1) (T.setIfInBounds d v) w) (hc : T[c]? = some (.bool b) := by simp only [Array.getElem?_setIfInBounds, Array.size_setIfInBounds, Nat.reduceEqDiff, Nat.reduceLT, reduceIte, *]) (hx : (if b = true then x else y) = .tmp z := by rfl) (hv : T[z]? = some v := by simp only [Array.getElem?_setIfInBounds, Array.size_setIfInBounds, Nat.reduceEqDiff, Nat.reduceLT, reduceIte, *]) : At P ops Q D n T w := pk h hw hc (by rw [hx]; exact evalT hv) k
theorem pkc' (b : Bool) (v : Value) {c : Tmp} {x y : Operand} {g : Option (Nat × Bool)} (h : IsOp ops n (.pick (.tmp c) x y) d g) (hw : On ops T g) (k : At P ops Q D (n + 1) (T.setIfInBounds d v) w) (hc : T[c]? = some (.bool b) := by simp only [Array.getElem?_setIfInBounds, Array.size_setIfInBounds, Nat.reduceEqDiff, Nat.reduceLT, reduceIte, *]) (hx : (if b = true then x else y) = .const v := by rfl) : At P ops Q D n T w := pk h hw hc (by rw [hx]; rfl) k
theorem eq' (b : Bool) (x : Int) {s : Tmp} {kd : IntKind} {t t' : TypeId} {m : Int} {g : Option (Nat × Bool)} (h : IsOp ops n (.binOp .eql t (.tmp s) (.const (.int kd m)) t') d g) (hw : On ops T g) (k : At P ops Q D (n + 1) (T.setIfInBounds d (.bool b)) w) (hs : T[s]? = some (.int kd x) := by simp only [Array.getElem?_setIfInBounds, Array.size_setIfInBounds, Nat.reduceEqDiff, Nat.reduceLT, reduceIte, *]) (hb : (x == m) = b := by assumption) : At P ops Q D n T w := eqk h hw hs hb k
theorem nt' (b c : Bool) {s : Tmp} {t : TypeId} {g : Option (Nat × Bool)} (h : IsOp ops n (.unOp .not t (.tmp s)) d g) (hw : On ops T g) (k : At P ops Q D (n + 1) (T.setIfInBounds d (.bool c)) w) (hs : T[s]? = some (.bool b) := by simp only [Array.getElem?_setIfInBounds, Array.size_setIfInBounds, Nat.reduceEqDiff, Nat.reduceLT, reduceIte, *]) (hc : (!b) = c := by rfl) : At P ops Q D n T w := ntk h hw hs hc k
theorem ad' (v u : Value) {s : Tmp} {t f : Nat} {g : Option (Nat × Bool)} (h : IsOp ops n (.fieldAddr t (.tmp s) f) d g) (hw : On ops T g) (hv : (Instr.fieldAt t v f).run P w = .ok u w) (k : At P ops Q D (n + 1) (T.setIfInBounds d u) w) (hs : T[s]? = some v := by simp only [Array.getElem?_setIfInBounds, Array.size_setIfInBounds, Nat.reduceEqDiff, Nat.reduceLT, reduceIte, *]) : At P ops Q D n T w := ad h hw hs hv k
theorem ld' (v u : Value) {s : Tmp} {t : Nat} {g : Option (Nat × Bool)} (h : IsOp ops n (.load t (.tmp s)) d g) (hw : On ops T g) (hv : (Instr.loadAt t v).run P w = .ok u w) (k : At P ops Q D (n + 1) (T.setIfInBounds d u) w) (hs : T[s]? = some v := by simp only [Array.getElem?_setIfInBounds, Array.size_setIfInBounds, Nat.reduceEqDiff, Nat.reduceLT, reduceIte, *]) : At P ops Q D n T w := ld h hw hs hv k
theorem ln' (A : Option Addr) (m : Nat) (c : Nat) {s : Tmp} {t : TypeId} {g : Option (Nat × Bool)} (hv : ∀ ty : TypeId, (Builtin.len_ #[t] ty #[.slice A m c]).run P w = .ok (.int .i64 m) w) (h : IsOp ops n (.call { callee := .builtin .len, args := #[.tmp s], argTypes := #[t] }) d g) (hw : On ops T g) (k : At P ops Q D (n + 1) (T.setIfInBounds d (.int .i64 m)) w) (hs : T[s]? = some (.slice A m c) := by simp only [Array.getElem?_setIfInBounds, Array.size_setIfInBounds, Nat.reduceEqDiff, Nat.reduceLT, reduceIte, *]) : At P ops Q D n T w := ln hv h hw hs k
end
attribute [irreducible] At IsOp
end Go.Proofs.Ytlhjdmpclfhoeaa.Fast
