/- A part of the proof of the seat's rows, said of the kit's own model: operations that only look: what they answer. Conditions: as each theorem says. -/
import Derived.Test.YthhhklmdceieaaaAb2
namespace Go.Ab
open Go Go.RowKit
set_option linter.unusedVariables false
set_option linter.unusedSimpArgs false

/-- A row that is a variable: told by its place. -/
def indexV (sz : Nat) : AV → Int → Option AV
  | .v (.slice (some ⟨b, o, none⟩) len _), n => if 0 ≤ n ∧ n < len then some (.v (.pointer (some ⟨b, o + n.toNat * sz, none⟩))) else none
  | _, _ => none
def lenV : AV → Option AV
  | .v (.slice _ n _) => some (.v (.int .i64 n))
  | _ => none
/-- Operations that only look at what is told (or make what never changes). -/
def rop (P : Program) (s : St) : Op → Option AV
  | .move x => look s x
  | .assign x => look s x
  | .pick c a b => (look s c).bind fun | .v (.bool c) => if c then look s a else look s b | _ => none
  | .nilCheck x => (look s x).bind fun | .el cs => some (.el cs) | .v (.pointer (some p)) => some (.v (.pointer (some p))) | _ => none
  | .binOp op t x y _ => (look s x).bind fun a => (look s y).bind fun b => match a, b with | .v a, .v b => (aBin P op t a b).map .v | _, _ => none
  | .unOp op _ x => (look s x).bind fun | .v a => (aUn op a).map .v | _ => none
  | .convert src dst x => (look s x).bind fun | .v (.int _ n) => if (P.underlying src).isSome then (intT P dst).map fun k => .v (.int k (k.wrap n)) else none | _ => none
  | .fieldAddr t x f => (offT P t f).bind fun o => (look s x).bind fun p => ptrAdd o p
  | .field t x f => (fieldT P t f).bind fun (o, u) => (look s x).bind fun | .agg cs => partC P u cs o | _ => none
  | .indexAddr t x i => (elemT P t).bind fun e => (sizeT P e).bind fun sz => (look s i).bind fun | .v (.int _ n) => (look s x).bind fun v => (indexV sz v n).or ((v.rows? sz).bind fun es => indexA es n) | _ => none
  | .load t x => (look s x).bind fun p => loadA P s.σ t p
  | .extract x i => (look s x).bind fun | .tup xs => xs[i]? | _ => none
  | .slice t x lo hi mx => if mx.isSome then none else (elemT P t).bind fun e => (sizeT P e).bind fun sz => (intO s lo).bind fun l => (intO s hi).bind fun h => (look s x).bind fun v => (v.rows? sz).bind fun es => cutA sz es l h
  | .call { callee := .builtin .len, args, argTypes } => match args.toList, argTypes.toList with
    | [x], [t] => (elemT P t).bind fun e => (sizeT P e).bind fun sz => (look s x).bind fun v => (lenV v).or ((v.rows? sz).bind fun es => some (.v (.int .i64 es.length)))
    | _, _ => none
  | .call { callee := .builtin .min, args, argTypes := _ } => match args.toList with
    | [x, y] => (look s x).bind fun a => (look s y).bind fun b => match a, b with | .v (.int k a), .v (.int _ b) => some (.v (.int k (if b < a then b else a))) | _, _ => none
    | _ => none
  | _ => none

theorem sim_cell {B : Nat} {w0 : World} {m : Imm} {s : St} {a : Act} {w : World} (h : Inv B w0 m s.σ w) {b o : Nat} {vs : List Value} (hv : Held m b o vs) : ∀ j v, vs[j]? = some v → w.cell? ⟨b, o + j, none⟩ = some v :=
  fun j v hj => h.imm _ _ _ (hv j v hj)
theorem ptrAdd_spec {m : Imm} {k : Nat} {p q : AV} {y : Value} (h : ptrAdd k p = some q) (hp : V m p y) : ∃ b o, y = .pointer (some ⟨b, o, none⟩) ∧ V m q (.pointer (some ⟨b, o + k, none⟩)) := by
  unfold ptrAdd at h
  split at h <;> simp at h
  · subst h
    cases hp with
    | el a b => exact ⟨_, _, rfl, .el (a.drop _) (b.drop _)⟩
  · subst h
    cases hp
    exact ⟨_, _, rfl, .v _⟩
theorem loadA_run {P : Program} {B : Nat} {w0 : World} {m : Imm} {σ : Sg} {w : World} (h : Inv B w0 m σ w) {t : TypeId} {p x : AV} {y : Value} (hx : loadA P σ t p = some x) (hp : V m p y) :
    ∃ z, (Instr.loadAt t y).run P w = .ok z w ∧ V m x z := by
  unfold loadA at hx
  split at hx
  · cases hp with
    | el a b =>
      obtain ⟨z, h1, h2⟩ := loadC_run hx a (fun j v hj => h.imm _ _ _ (b j v hj))
      exact ⟨z, by simp [Instr.loadAt, Instr.sureAddr, h1], h2⟩
  · rename_i b o
    cases hp
    obtain ⟨cs, hc, hx⟩ := Option.bind_eq_some_iff.1 hx
    obtain ⟨_, _, vs, ty, hb, hv⟩ := h.var _ _ hc
    obtain ⟨z, h1, h2⟩ := loadC_run (w := w) (b := b) (o := o) hx (hv.drop _) (fun j v hj => by
      rw [List.getElem?_drop] at hj
      simp only [World.cell?, hb]
      simpa using hj)
    exact ⟨z, by simp [Instr.loadAt, Instr.sureAddr, h1], h2⟩
  · simp at hx
theorem partC_run {P : Program} {m : Imm} {u : TypeId} {cs : List AV} {o : Nat} {x : AV} {vs : List Value} (h : partC P u cs o = some x) (hv : VC m cs vs) (w : World) : ∃ y, (part u vs.toArray o).run P w = .ok y w ∧ V m x y := by
  unfold partC at h
  obtain ⟨g, hg, h⟩ := Option.bind_eq_some_iff.1 h
  cases g with
  | false =>
    simp only [Bool.false_eq_true, if_false] at h
    obtain ⟨y, h1, h2, _⟩ := hv.get h
    refine ⟨y, ?_, h2⟩
    have : vs.toArray[o]? = some y := by simpa using h1
    simp [part, aggT_run hg, this]
  | true =>
    simp only [if_true] at h
    obtain ⟨n, hn, h⟩ := Option.bind_eq_some_iff.1 h
    split at h <;> simp at h
    subst h
    refine ⟨_, by simp [part, aggT_run hg, sizeT_run hn]; rfl, ?_⟩
    have := V.agg ((hv.drop o).take n)
    exact this
theorem indexA_run {P : Program} {m : Imm} {t e : TypeId} {sz : Nat} {es : List (List AV)} {n : Int} {k : IntKind} {x p : AV} {y : Value} (he : elemT P t = some e) (hs : sizeT P e = some sz) (hr : x.rows? sz = some es) (hx : V m x y) (h : indexA es n = some p) (w : World) :
    ∃ z, (Instr.indexAt t y (.int k n)).run P w = .ok z w ∧ V m p z := by
  unfold indexA at h
  split at h <;> simp at h
  rename_i hb
  subst h
  rcases hx.rows hr with ⟨A, C, rfl, rfl⟩ | ⟨b, o, cap, vs, rfl, h1, h2, h3, h4⟩
  · simp at hb; omega
  · have hi : n.toNat < es.length := by omega
    have hc : (0 : Int) ≤ n ∧ n < (es.length : Int) := hb
    refine ⟨.pointer (some ⟨b, o + n.toNat * sz, none⟩), ?_, ?_⟩
    · simp [Instr.indexAt, run_underlying (elemT_spec he), asIntOf, hc, sizeT_run hs, add_at]
    · have hd := h2.drop (n.toNat * sz)
      rw [flat_drop h1] at hd
      have hdr : es.drop n.toNat = es[n.toNat] :: es.drop (n.toNat + 1) := List.drop_eq_getElem_cons hi
      rw [hdr, List.flatten_cons] at hd
      have := hd.split.1
      rw [h1 _ (List.getElem_mem hi)] at this
      have e2 : es.getD n.toNat [] = es[n.toNat] := by simp [List.getD, hi]
      show V m (.el (es.getD n.toNat [])) _
      rw [e2]
      exact .el this ((h3.drop _).take _)
theorem cutA_run {P : Program} {m : Imm} {t e : TypeId} {sz : Nat} {es : List (List AV)} {x p : AV} {y : Value} {l h : Option Int} {lo hi : Option Value} (he : elemT P t = some e) (hs : sizeT P e = some sz) (hr : x.rows? sz = some es) (hx : V m x y) (hc : cutA sz es l h = some p)
    (hl : ∀ z, lo = some z → ∃ k n, z = .int k n ∧ l = some n) (hl' : lo = none → l = none) (hh : ∀ z, hi = some z → ∃ k n, z = .int k n ∧ h = some n) (hh' : hi = none → h = none) (w : World) :
    ∃ z, (Instr.sliceAt t y lo hi none).run P w = .ok z w ∧ V m p z := by
  unfold cutA at hc
  split at hc <;> simp at hc
  rename_i hb
  subst hc
  have hu := run_underlying (elemT_spec he)
  rcases hx.rows hr with ⟨A, C, rfl, rfl⟩ | ⟨b, o, cap, vs, rfl, h1, h2, h3, h4⟩
  · have e1 : l.getD 0 = 0 := by cases l <;> cases h <;> simp at hb ⊢ <;> omega
    have e2 : h.getD 0 = 0 := by cases l <;> cases h <;> simp at hb ⊢ <;> omega
    have add0 : A.map (fun x => x.add 0) = A := by cases A <;> simp [Addr.add]
    refine ⟨.slice A 0 C, ?_, by simpa using V.rowNil⟩
    cases lo with
    | none =>
      cases hi with
      | none => simp [Instr.sliceAt, Instr.slice, Instr.sliceBounds, hu, sizeT_run hs, add0]
      | some z =>
        obtain ⟨k, n, rfl, rfl⟩ := hh z rfl
        simp at e2; subst e2
        simp [Instr.sliceAt, Instr.slice, Instr.sliceBounds, Instr.sliceBound, asIntOf, hu, sizeT_run hs, add0]
    | some z =>
      obtain ⟨k, n, rfl, rfl⟩ := hl z rfl
      simp at e1; subst e1
      cases hi with
      | none => simp [Instr.sliceAt, Instr.slice, Instr.sliceBounds, Instr.sliceBound, asIntOf, hu, sizeT_run hs, add0]
      | some z =>
        obtain ⟨k', n', rfl, rfl⟩ := hh z rfl
        simp at e2; subst e2
        simp [Instr.sliceAt, Instr.slice, Instr.sliceBounds, Instr.sliceBound, asIntOf, hu, sizeT_run hs, add0]
  · obtain ⟨L, hL⟩ : ∃ L : Nat, l.getD 0 = L := ⟨(l.getD 0).toNat, by omega⟩
    obtain ⟨H, hH⟩ : ∃ H : Nat, h.getD es.length = H := ⟨(h.getD es.length).toNat, by omega⟩
    rw [hL, hH] at hb ⊢
    have b1 : L ≤ H := by omega
    have b2 : H ≤ es.length := by omega
    have run : (Instr.sliceAt t (.slice (some ⟨b, o, none⟩) es.length cap) lo hi none).run P w = .ok (.slice (some (if cap = L then ⟨b, o, none⟩ else ⟨b, o + L * sz, none⟩)) (H - L) (cap - L)) w := by
      cases lo with
      | none =>
        have := hl' rfl; subst this
        simp at hL; obtain rfl : L = 0 := by omega
        cases hi with
        | none =>
          have := hh' rfl; subst this
          simp at hH; obtain rfl : H = es.length := by omega
          simp [Instr.sliceAt, Instr.slice, Instr.sliceBounds, hu, sizeT_run hs, add_at]
        | some z =>
          obtain ⟨k, n, rfl, rfl⟩ := hh z rfl
          simp at hH; subst hH
          have : H ≤ cap := by omega
          simp [Instr.sliceAt, Instr.slice, Instr.sliceBounds, Instr.sliceBound, asIntOf, hu, sizeT_run hs, this, add_at]
          try (by_cases hcl : cap = L <;> simp [hcl])
      | some z =>
        obtain ⟨k, n, rfl, rfl⟩ := hl z rfl
        simp at hL; subst hL
        cases hi with
        | none =>
          have := hh' rfl; subst this
          simp at hH; obtain rfl : H = es.length := by omega
          have : L ≤ es.length := by omega
          simp [Instr.sliceAt, Instr.slice, Instr.sliceBounds, Instr.sliceBound, asIntOf, hu, sizeT_run hs, this, add_at]
          try (by_cases hcl : cap = L <;> simp [hcl])
        | some z =>
          obtain ⟨k', n', rfl, rfl⟩ := hh z rfl
          simp at hH; subst hH
          have : H ≤ cap := by omega
          have h'' : L ≤ H := by omega
          simp [Instr.sliceAt, Instr.slice, Instr.sliceBounds, Instr.sliceBound, asIntOf, hu, sizeT_run hs, this, h'', add_at]
          try (by_cases hcl : cap = L <;> simp [hcl])
    refine ⟨_, run, ?_⟩
    simp only [Int.toNat_natCast]
    have hlen : ((es.take H).drop L).length = H - L := by simp; omega
    have hsz : ∀ e ∈ (es.take H).drop L, e.length = sz := fun e he => h1 e (List.mem_of_mem_take (List.mem_of_mem_drop he))
    have hv := ((h2.take (H * sz)).drop (L * sz))
    rw [flat_take h1, flat_drop (fun e he => h1 e (List.mem_of_mem_take he))] at hv
    have hd := (h3.take (H * sz)).drop (L * sz)
    have := V.row (cap := cap - L) hsz hv hd (by rw [hlen]; omega)
    rw [hlen] at this
    split
    · rename_i hcl
      have e0 : H - L = 0 := by omega
      have e1 : (es.take H).drop L = [] := List.eq_nil_of_length_eq_zero (by rw [hlen, e0])
      rw [e1]
      have := V.row (m := m) (es := []) (vs := []) (b := b) (o := o) (cap := cap - L) (sz := sz) (by simp) .nil (by intro j v hj; simp at hj) (by simp)
      simpa [e0] using this
    · exact this

theorem intO_spec {B : Nat} {w0 : World} {m : Imm} {s : St} {a : Act} {w : World} (h : Sim B w0 m s a w) {x : Option Operand} {l : Option Int} (hx : intO s x = some l) :
    (∀ z, x.map a.eval = some z → ∃ k n, z = .int k n ∧ l = some n) ∧ (x.map a.eval = none → l = none) := by
  cases x with
  | none => simp [intO] at hx; subst hx; exact ⟨by simp, fun _ => rfl⟩
  | some x =>
    simp only [intO] at hx
    obtain ⟨v, hv, hx⟩ := Option.bind_eq_some_iff.1 hx
    have := look_eval h hv
    split at hx <;> simp at hx
    subst hx
    generalize he : a.eval x = y at this
    cases this
    exact ⟨fun z hz => by simp [he] at hz; subst hz; exact ⟨_, _, rfl, rfl⟩, by simp⟩

set_option maxHeartbeats 1000000 in
theorem rop_run {P : Program} {B : Nat} {w0 : World} {m : Imm} {s : St} {a : Act} {w : World} (h : Sim B w0 m s a w) (o : Oper) {x : AV} (hx : rop P s o.op = some x) :
    ∃ y, (execOp a.eval o).run P w = .ok (.value y) w ∧ V m x y := by
  obtain ⟨dst, op, ty, pos, after, guard⟩ := o
  dsimp only at hx
  cases op with
  | move z => exact ⟨_, rfl, look_eval h hx⟩
  | assign z => exact ⟨_, rfl, look_eval h hx⟩
  | pick c p q =>
    simp only [rop] at hx
    obtain ⟨v, hv, hx⟩ := Option.bind_eq_some_iff.1 hx
    have e := look_eval h hv
    split at hx <;> first | (simp at hx; done) | skip
    rename_i b
    generalize he : a.eval c = y at e
    cases e
    cases b with
    | true => simp at hx; exact ⟨a.eval p, by simp [execOp, he, asBool], look_eval h hx⟩
    | false => simp at hx; exact ⟨a.eval q, by simp [execOp, he, asBool], look_eval h hx⟩
  | nilCheck z =>
    simp only [rop] at hx
    obtain ⟨v, hv, hx⟩ := Option.bind_eq_some_iff.1 hx
    have e := look_eval h hv
    generalize he : a.eval z = y at e
    split at hx <;> simp at hx
    · subst hx
      cases e with
      | el p q => exact ⟨_, by simp only [execOp, he]; rfl, .el p q⟩
    · subst hx
      cases e
      exact ⟨_, by simp only [execOp, he]; rfl, .v _⟩
  | binOp op t p q _ =>
    simp only [rop] at hx
    obtain ⟨u, hu, hx⟩ := Option.bind_eq_some_iff.1 hx
    obtain ⟨v, hv, hx⟩ := Option.bind_eq_some_iff.1 hx
    have e1 := look_eval h hu
    have e2 := look_eval h hv
    split at hx <;> simp at hx
    obtain ⟨c, hc, rfl⟩ := hx
    generalize he1 : a.eval p = y1 at e1
    generalize he2 : a.eval q = y2 at e2
    cases e1
    cases e2
    have := (aBin_run hc p q w).1
    refine ⟨c, ?_, .v _⟩
    simp only [execOp, he1, he2, Sem.run_bind] at this ⊢
    rw [this]; rfl
  | unOp op t p =>
    simp only [rop] at hx
    obtain ⟨u, hu, hx⟩ := Option.bind_eq_some_iff.1 hx
    have e1 := look_eval h hu
    split at hx <;> simp at hx
    obtain ⟨c, hc, rfl⟩ := hx
    generalize he1 : a.eval p = y1 at e1
    cases e1
    have := (aUn_run (P := P) hc w).1
    refine ⟨c, ?_, .v _⟩
    simp [execOp, he1, this]
  | convert src dst' p =>
    simp only [rop] at hx
    obtain ⟨u, hu, hx⟩ := Option.bind_eq_some_iff.1 hx
    have e1 := look_eval h hu
    split at hx <;> simp at hx
    rename_i k n
    obtain ⟨hs, k', hk, rfl⟩ := hx
    generalize he1 : a.eval p = y1 at e1
    cases e1
    obtain ⟨d, hd⟩ := Option.isSome_iff_exists.1 hs
    refine ⟨.int k' (k'.wrap n), ?_, .v _⟩
    simp [execOp, he1, convert, run_underlying hd, run_underlying (intT_spec hk), Conv.intToInt]
  | fieldAddr t p f =>
    simp only [rop] at hx
    obtain ⟨k, hk, hx⟩ := Option.bind_eq_some_iff.1 hx
    obtain ⟨u, hu, hx⟩ := Option.bind_eq_some_iff.1 hx
    have e1 := look_eval h hu
    obtain ⟨b, o, he, hq⟩ := ptrAdd_spec hx e1
    refine ⟨_, ?_, hq⟩
    unfold offT at hk
    obtain ⟨⟨o', ft⟩, hf, hk⟩ := Option.bind_eq_some_iff.1 hk
    obtain ⟨n, hn, hk⟩ := Option.bind_eq_some_iff.1 hk
    split at hk <;> simp at hk
    subst hk
    obtain ⟨fs, fd, h1, h2, h3, h4⟩ := fieldT_spec hf
    subst h3; subst h4
    simp [execOp, he, Instr.fieldAt, run_underlying h1, h2, Instr.sureAddr, fieldPlace, sizeT_run hn, *, add_at]
  | field t p f =>
    simp only [rop] at hx
    obtain ⟨⟨o', ft⟩, hf, hx⟩ := Option.bind_eq_some_iff.1 hx
    obtain ⟨u, hu, hx⟩ := Option.bind_eq_some_iff.1 hx
    have e1 := look_eval h hu
    obtain ⟨fs, fd, h1, h2, h3, h4⟩ := fieldT_spec hf
    subst h3; subst h4
    simp only [] at hx
    split at hx <;> first | (simp at hx; done) | skip
    generalize he1 : a.eval p = y1 at e1
    cases e1 with
    | agg hv =>
      obtain ⟨y, h5, h6⟩ := partC_run hx hv w
      exact ⟨y, by simp [execOp, he1, Instr.field, run_underlying h1, h2, asAgg, h5], h6⟩
  | indexAddr t p i =>
    simp only [rop] at hx
    obtain ⟨e, he, hx⟩ := Option.bind_eq_some_iff.1 hx
    obtain ⟨sz, hs, hx⟩ := Option.bind_eq_some_iff.1 hx
    obtain ⟨vi, hi, hx⟩ := Option.bind_eq_some_iff.1 hx
    have ei := look_eval h hi
    split at hx <;> first | (simp at hx; done) | skip
    rename_i k n
    obtain ⟨vx, hvx, hx⟩ := Option.bind_eq_some_iff.1 hx
    have ex := look_eval h hvx
    rcases Option.or_eq_some_iff.1 hx with hx | ⟨_, hx⟩
    · unfold indexV at hx
      split at hx <;> first | (simp at hx; done) | skip
      split at hx <;> simp at hx
      subst hx
      have hb := ‹0 ≤ n ∧ n < _›
      generalize he1 : a.eval i = y1 at ei
      generalize he2 : a.eval p = y2 at ex
      cases ei
      cases ex
      exact ⟨_, by simp [execOp, he1, he2, Instr.indexAt, run_underlying (elemT_spec he), asIntOf, hb, sizeT_run hs, add_at], .v _⟩
    obtain ⟨es, hes, hx⟩ := Option.bind_eq_some_iff.1 hx
    generalize he1 : a.eval i = y1 at ei
    cases ei
    obtain ⟨z, h1, h2⟩ := indexA_run he hs hes ex hx (k := k) w
    exact ⟨z, by simp [execOp, he1, h1], h2⟩
  | load t p =>
    simp only [rop] at hx
    obtain ⟨u, hu, hx⟩ := Option.bind_eq_some_iff.1 hx
    have e1 := look_eval h hu
    obtain ⟨z, h1, h2⟩ := loadA_run h.inv hx e1
    exact ⟨z, by simp [execOp, h1], h2⟩
  | extract p i =>
    simp only [rop] at hx
    obtain ⟨u, hu, hx⟩ := Option.bind_eq_some_iff.1 hx
    have e1 := look_eval h hu
    split at hx <;> first | (simp at hx; done) | skip
    generalize he1 : a.eval p = y1 at e1
    cases e1 with
    | tup hv =>
      obtain ⟨y, h5, h6⟩ := hv.get hx
      exact ⟨y, by simp [execOp, he1, Instr.extract, h5], h6⟩
  | slice t p lo hi mx =>
    simp only [rop] at hx
    split at hx
    · simp at hx
    rename_i hm
    obtain rfl : mx = none := by simpa using hm
    obtain ⟨e, he, hx⟩ := Option.bind_eq_some_iff.1 hx
    obtain ⟨sz, hs, hx⟩ := Option.bind_eq_some_iff.1 hx
    obtain ⟨l, hl, hx⟩ := Option.bind_eq_some_iff.1 hx
    obtain ⟨l', hl', hx⟩ := Option.bind_eq_some_iff.1 hx
    obtain ⟨vx, hvx, hx⟩ := Option.bind_eq_some_iff.1 hx
    obtain ⟨es, hes, hx⟩ := Option.bind_eq_some_iff.1 hx
    obtain ⟨z, h1, h2⟩ := cutA_run he hs hes (look_eval h hvx) hx (intO_spec h hl).1 (intO_spec h hl).2 (intO_spec h hl').1 (intO_spec h hl').2 w
    exact ⟨z, by simp [execOp, h1], h2⟩
  | call c =>
    obtain ⟨cl, args, ts⟩ := c
    cases cl with
    | builtin b =>
      cases b <;> simp only [rop] at hx <;> try (simp at hx; done)
      · split at hx <;> try (simp at hx; done)
        rename_i z t hz ht
        obtain ⟨e, he, hx⟩ := Option.bind_eq_some_iff.1 hx
        obtain ⟨sz, hs, hx⟩ := Option.bind_eq_some_iff.1 hx
        obtain ⟨vx, hvx, hx⟩ := Option.bind_eq_some_iff.1 hx
        have ex := look_eval h hvx
        rcases Option.or_eq_some_iff.1 hx with hx | ⟨_, hx⟩
        · unfold lenV at hx
          split at hx <;> simp at hx
          subst hx
          obtain ⟨args⟩ := args
          obtain ⟨ts⟩ := ts
          try dsimp only at hz
          try dsimp only at ht
          subst hz; subst ht
          generalize he2 : a.eval z = y2 at ex
          cases ex
          exact ⟨_, by simp [execOp, resolve, invoke, builtin, he2, Builtin.len_, run_underlying (elemT_spec he)]; rfl, .v _⟩
        obtain ⟨es, hes, hx⟩ := Option.bind_eq_some_iff.1 hx
        simp at hx; subst hx
        obtain ⟨args⟩ := args
        obtain ⟨ts⟩ := ts
        try dsimp only at hz
        try dsimp only at ht
        subst hz; subst ht
        rcases ex.rows hes with ⟨A, C, h1, rfl⟩ | ⟨b, o, cap, vs, h1, _⟩
        · exact ⟨_, by simp [execOp, resolve, invoke, builtin, h1, Builtin.len_, run_underlying (elemT_spec he)]; rfl, .v _⟩
        · exact ⟨_, by simp [execOp, resolve, invoke, builtin, h1, Builtin.len_, run_underlying (elemT_spec he)]; rfl, .v _⟩
      · split at hx <;> try (simp at hx; done)
        rename_i p q hz
        obtain ⟨u, hu, hx⟩ := Option.bind_eq_some_iff.1 hx
        obtain ⟨v, hv, hx⟩ := Option.bind_eq_some_iff.1 hx
        have e1 := look_eval h hu
        have e2 := look_eval h hv
        split at hx <;> simp at hx
        subst hx
        obtain ⟨args⟩ := args
        try dsimp only at hz
        subst hz
        generalize he1 : a.eval p = y1 at e1
        generalize he2 : a.eval q = y2 at e2
        cases e1
        cases e2
        exact ⟨_, by simp [execOp, resolve, invoke, builtin, he1, he2, Builtin.min_, Builtin.min2], .v _⟩
    | _ => simp [rop] at hx
  | _ => simp [rop] at hx
end Go.Ab
