/- A part of the proof of the seat's rows, said of the kit's own model: operations that build rows and structs: what they answer. Conditions: as each theorem says. -/
import Derived.Test.YthhhklmdceieaaaAb3
import Derived.Laws.BytesString
namespace Go.Ab
open Go Go.RowKit
set_option linter.unusedVariables false
set_option linter.unusedSimpArgs false

theorem fold_set (off : Nat) : ∀ (vs : List Value) (j : Nat) (cells : Array Value), off + j + vs.length ≤ cells.size →
    (vs.zipIdx j).foldl (fun cs (x : Value × Nat) => cs.setIfInBounds (off + x.2) x.1) cells = (cells.toList.take (off + j) ++ vs ++ cells.toList.drop (off + j + vs.length)).toArray
  | [], j, cells, h => by simp
  | v :: vs, j, cells, h => by
    have hl : off + j < cells.size := by simp at h; omega
    rw [List.zipIdx_cons, List.foldl_cons]
    rw [fold_set off vs (j + 1) (cells.setIfInBounds (off + j) v) (by simp at h ⊢; omega)]
    have e := list_seg_step cells.toList (off + j) v vs (by simp at h ⊢; omega)
    simpa [Array.toList_setIfInBounds, Nat.add_assoc] using e
theorem fold_set' (off : Nat) (v : Value) (cells : Array Value) (h : off + v.cells.size ≤ cells.size) :
    v.cells.zipIdx.foldl (fun cs (x : Value × Nat) => cs.setIfInBounds (off + x.2) x.1) cells = (cells.toList.take off ++ v.cells.toList ++ cells.toList.drop (off + v.cells.size)).toArray := by
  have := fold_set off v.cells.toList 0 cells (by simpa using h)
  rw [← Array.foldl_toList, Array.toList_zipIdx]
  simpa using this

/-- Parts: numbered rows of cells, and the values that they are. -/
inductive PR (m : Imm) : List (Nat × List AV) → List (Nat × Value) → Prop
  | nil : PR m [] []
  | cons {i : Nat} {xs : List AV} {v : Value} {p : List (Nat × List AV)} {q : List (Nat × Value)} : VC m xs v.cells.toList → PR m p q → PR m ((i, xs) :: p) ((i, v) :: q)
theorem parts_spec {B : Nat} {w0 : World} {m : Imm} {s : St} {a : Act} {w : World} (h : Sim B w0 m s a w) : ∀ {l : List (Nat × Operand)} {ps : List (Nat × List AV)}, partsA s l = some ps → PR m ps (l.map fun (i, x) => (i, a.eval x))
  | [], ps, hp => by simp [partsA] at hp; subst hp; exact .nil
  | (i, x) :: l, ps, hp => by
    simp only [partsA] at hp
    obtain ⟨v, hv, hp⟩ := Option.bind_eq_some_iff.1 hp
    obtain ⟨cs, hc, hp⟩ := Option.bind_eq_some_iff.1 hp
    obtain ⟨t, ht, hp⟩ := Option.bind_eq_some_iff.1 hp
    simp at hp; subst hp
    exact .cons ((look_eval h hv).cells hc) (parts_spec h ht)
theorem lay_fill {m : Imm} {place : Nat → Option (Nat × Nat)} : ∀ {ps : List (Nat × List AV)} {qs : List (Nat × Value)} {cs out : List AV} {cells : Array Value}, PR m ps qs → layC place cs ps = some out → VC m cs cells.toList →
    ∃ r, Instr.fill place cells qs = some r ∧ VC m out r.toList
  | _, _, cs, out, cells, .nil, h, hv => by
    simp [layC] at h; subst h
    exact ⟨cells, rfl, hv⟩
  | _, _, cs, out, cells, @PR.cons _ i xs v p q a b, h, hv => by
    simp only [layC] at h
    obtain ⟨⟨o, n⟩, hpl, h⟩ := Option.bind_eq_some_iff.1 h
    simp only [] at h
    split at h
    · rename_i hc
      have l1 := a.length
      have l2 := hv.length
      simp at l1 l2
      have hs : v.cells.size = n := by omega
      have hf := fold_set' o v cells (by omega)
      have hv' : VC m (cs.take o ++ xs ++ cs.drop (o + n)) (cells.toList.take o ++ v.cells.toList ++ cells.toList.drop (o + v.cells.size)) := by
        rw [hs]; exact ((hv.take o).append a).append (hv.drop _)
      obtain ⟨r, h1, h2⟩ := lay_fill (cells := (cells.toList.take o ++ v.cells.toList ++ cells.toList.drop (o + v.cells.size)).toArray) b h (by simpa using hv')
      refine ⟨r, ?_, h2⟩
      simp only [Instr.fill, hpl]
      rw [if_neg (by simp [hs]; omega), hf]
      exact h1
    · simp at h
/-- Rows of cells that stand one behind the other. -/
theorem fill_dense {m : Imm} {sz len : Nat} : ∀ {ps : List (Nat × List AV)} {qs : List (Nat × Value)} {k : Nat} {cells : Array Value}, PR m ps qs → (∀ (j : Nat) (p : Nat × List AV), ps[j]? = some p → p.1 = k + j ∧ p.2.length = sz) → k + ps.length = len → cells.size = len * sz →
    ∃ r vs, Instr.fill (fun i => some (i * sz, sz)) cells qs = some r ∧ r.toList = cells.toList.take (k * sz) ++ vs ∧ VC m (ps.map (·.2)).flatten vs
  | _, _, k, cells, .nil, h, hk, hc => by
    refine ⟨cells, [], rfl, ?_, .nil⟩
    simp at hk; subst hk
    rw [List.take_of_length_le (by simp [hc])]; simp
  | _, _, k, cells, @PR.cons _ i xs v p q a b, h, hk, hc => by
    have h0 := h 0 (i, xs) (by simp)
    simp at h0
    obtain ⟨rfl, hx⟩ := h0
    have l1 := a.length
    simp at l1
    have hs : v.cells.size = sz := by omega
    have hk' : i + 1 ≤ len := by simp at hk; omega
    have hle : i * sz + sz ≤ len * sz := by have := Nat.mul_le_mul_right sz hk'; rw [Nat.add_mul, Nat.one_mul] at this; exact this
    have hf := fold_set' (i * sz) v cells (by omega)
    obtain ⟨r, vs, h1, h2, h3⟩ := fill_dense (sz := sz) (len := len) (k := i + 1) (cells := (cells.toList.take (i * sz) ++ v.cells.toList ++ cells.toList.drop (i * sz + v.cells.size)).toArray) b
      (fun j p hp => by have := h (j + 1) p (by simpa using hp); exact ⟨by omega, this.2⟩) (by simp at hk; omega) (by simp; omega)
    refine ⟨r, v.cells.toList ++ vs, ?_, ?_, by simpa using a.append h3⟩
    · simp only [Instr.fill]
      rw [if_neg (by simp [hs]; omega), hf]
      exact h1
    · rw [h2]
      have : (i + 1) * sz = (cells.toList.take (i * sz) ++ v.cells.toList).length := by simp [hs, Nat.add_mul]; omega
      rw [this]
      simp only [List.toList_toArray, List.take_append_of_le_length (Nat.le_refl _), List.take_length, List.append_assoc]
      rw [← List.append_assoc, List.take_append_of_le_length (by simp), List.take_of_length_le (by simp)]
      simp

def placesT (P : Program) (t : TypeId) : Option (List (Nat × Nat)) := (P.underlying t).bind fun | .struct fs => fs.toList.mapM (fun f => (P.info? f.type).map fun i => (f.offset, i.size)) | _ => none
def hasZ (P : Program) (t : TypeId) : Bool := ((P.info? t).bind (·.zero)).isSome
/-- Is a row of parts whole? -/
def denseB (sz len : Nat) (ps : List (Nat × List AV)) : Bool := Nat.ble (len * sz) 16777216 && (ps.length == len) && ps.zipIdx.all fun (p, j) => p.1 == j && p.2.length == sz
theorem bslice_run {P : Program} {B : Nat} {w0 : World} {m : Imm} {s : St} {a : Act} {w : World} (h : Sim B w0 m s a w) {t e len sz : Nat} {parts : Array (Nat × Operand)} {ps : List (Nat × List AV)} (he : elemT P t = some e) (hs : sizeT P e = some sz) (hps : partsA s parts.toList = some ps) (c2 : hasZ P e = true) (hd : denseB sz len ps = true) :
    (∀ x ∈ ps.map (·.2), x.length = sz) ∧ (ps.map (·.2)).length = len ∧ ∃ r : Array Value, VC m (ps.map (·.2)).flatten r.toList ∧ (Instr.buildSlice t len (parts.map fun (i, x) => (i, a.eval x))).run P w = .ok (.slice (some ⟨w.heap.size, 0, none⟩) len len) (w.alloc (.cells r e)) := by
  unfold denseB at hd
  rw [Bool.and_eq_true, Bool.and_eq_true] at hd
  obtain ⟨⟨c1, c3⟩, c4⟩ := hd
  have c1 : len * sz ≤ 2 ^ 24 := Nat.le_of_ble_eq_true c1
  have c3 : ps.length = len := by simpa using c3
  have hsz : ∀ (j : Nat) (p : Nat × List AV), ps[j]? = some p → p.1 = 0 + j ∧ p.2.length = sz := fun j p hp => by
    have := List.all_eq_true.1 c4 (p, j) (by rw [List.mem_zipIdx_iff_getElem?]; exact hp)
    simp at this; omega
  obtain ⟨ie, hie, hz⟩ : ∃ ie, P.info? e = some ie ∧ ie.zero.isSome = true := by
    unfold hasZ at c2
    cases hi : P.info? e with
    | none => simp [hi] at c2
    | some i => exact ⟨i, rfl, by simpa [hi] using c2⟩
  obtain ⟨z, hz⟩ := Option.isSome_iff_exists.1 hz
  have hies : ie.size = sz := by unfold sizeT at hs; simpa [hie] using hs
  have key : ∀ zs : Array Value, ∃ r vs, Instr.fill (fun i => some (i * sz, sz)) ((Array.range (len * sz)).map (zs[· % zs.size]!)) (parts.map fun (i, x) => (i, a.eval x)).toList = some r ∧ r.toList = vs ∧ VC m (ps.map (·.2)).flatten vs := fun zs => by
    obtain ⟨r, vs, h1, h2, h3⟩ := fill_dense (k := 0) (len := len) (cells := (Array.range (len * sz)).map (zs[· % zs.size]!)) (parts_spec h hps) hsz (by omega) (by simp)
    exact ⟨r, vs, by simpa using h1, by simpa using h2, h3⟩
  have hsz' : ∀ x ∈ ps.map (·.2), x.length = sz := fun x hx => by
    obtain ⟨p, hp, rfl⟩ := List.mem_map.1 hx
    obtain ⟨j, hj⟩ := List.getElem?_of_mem hp
    exact (hsz j p hj).2
  refine ⟨hsz', by simp [c3], ?_⟩
  by_cases h0 : len * sz = 0
  · obtain ⟨r, vs, h1, h2, h3⟩ := key #[]
    refine ⟨r, by rw [h2]; exact h3, ?_⟩
    have h24 : ¬ (2 ^ 24 < len * ie.size) := by rw [hies]; omega
    have h0' : len * ie.size = 0 := by rw [hies]; exact h0
    rw [← hies] at h1
    rw [h0'] at h1
    simp only [Instr.buildSlice, Sem.run_bind, run_underlying (elemT_spec he), Result.andThen_ok, sizeOf, typeInfo, run_program, hie]
    simp [h0', newRow]
    simp at h1
    simp [h1, newRow]
  · obtain ⟨r, vs, h1, h2, h3⟩ := key z.cells
    refine ⟨r, by rw [h2]; exact h3, ?_⟩
    rw [← hies] at h1 h0
    have h24 : ¬ (len * ie.size > 2 ^ 24) := by rw [hies]; omega
    simp [Instr.buildSlice, run_underlying (elemT_spec he), sizeOf, typeInfo, zeroValue, hie, hz, h24, h0, newRow]
    simp at h1
    simp [h1, newRow]
/-- The numbers of a row of bytes. -/
def bytesI : List (List AV) → Option (List Int)
  | [] => some []
  | e :: r => match e with
    | [.v (.int .u8 n)] => (bytesI r).map fun t => n :: t
    | _ => none
def mkS (ns : List Int) : ByteArray := ns.foldl (fun r n => r.push (UInt8.ofNat n.toNat)) ByteArray.empty
def byteRowT (P : Program) (t : TypeId) : Bool := match elemT P t with | some e => intT P e == some .u8 && sizeT P e == some 1 | none => false
theorem bytesI_flat : ∀ {es : List (List AV)} {ns : List Int}, bytesI es = some ns → es.flatten = ns.map fun n => AV.v (.int .u8 n)
  | [], ns, h => by simp [bytesI] at h; subst h; rfl
  | e :: r, ns, h => by
    simp only [bytesI] at h
    split at h
    · simp only [Option.map_eq_some_iff] at h
      obtain ⟨t, h1, rfl⟩ := h
      simp [bytesI_flat h1]
    · cases h
theorem VC.ints {m : Imm} : ∀ {ns : List Int} {vs : List Value}, VC m (ns.map fun n => AV.v (.int .u8 n)) vs → vs = ns.map (Value.int .u8)
  | [], _, .nil => rfl
  | n :: ns, _, .cons a b c => by cases a; rw [VC.ints c]; rfl
/-- Operations that look, or make what never changes. -/
def vop (P : Program) (s : St) : Op → Option AV
  | .build t parts => (placesT P t).bind fun pl => (zeroT P t).bind fun z => (partsA s parts.toList).bind fun ps => (layC (pl[·]?) z ps).map .agg
  | .buildSlice t len parts => (elemT P t).bind fun e => (sizeT P e).bind fun sz => (partsA s parts.toList).bind fun ps =>
      if hasZ P e = true ∧ denseB sz len ps = true then some (.row sz (ps.map (·.2))) else none
  | .convert src dst x => if strT P dst && byteRowT P src then (look s x).bind fun v => (v.rows? 1).bind fun es => (bytesI es).map fun ns => .v (.string (mkS ns)) else rop P s (.convert src dst x)
  | op => rop P s op

theorem zeroT_spec {P : Program} {t : TypeId} {z : List AV} (h : zeroT P t = some z) (m : Imm) : ∃ i u, P.info? t = some i ∧ i.zero = some u ∧ VC m z u.cells.toList := by
  unfold zeroT at h
  obtain ⟨u, hu, h⟩ := Option.bind_eq_some_iff.1 h
  obtain ⟨i, hi, hu⟩ := Option.bind_eq_some_iff.1 hu
  split at h <;> simp at h
  rename_i ha
  refine ⟨i, u, hi, hu, ?_⟩
  subst h
  generalize u.cells.toList = l at ha
  induction l with
  | nil => exact .nil
  | cons x l ih => simp at ha; exact .cons (.v x) ha.1 (ih (by simpa using ha.2))

theorem vop_run {P : Program} {B : Nat} {w0 : World} {m : Imm} {s : St} {a : Act} {w : World} (h : Sim B w0 m s a w) (o : Oper) {x : AV} (hx : vop P s o.op = some x) :
    ∃ y m' w', (execOp a.eval o).run P w = .ok (.value y) w' ∧ V m' x y ∧ m.le m' ∧ Inv B w0 m' s.σ w' := by
  obtain ⟨dst, op, ty, pos, after, guard⟩ := o
  dsimp only at hx
  have other : rop P s op = some x → ∃ y m' w', (execOp a.eval ⟨dst, op, ty, pos, after, guard⟩).run P w = .ok (.value y) w' ∧ V m' x y ∧ m.le m' ∧ Inv B w0 m' s.σ w' := fun hr => by
    obtain ⟨y, h1, h2⟩ := rop_run h ⟨dst, op, ty, pos, after, guard⟩ hr
    exact ⟨y, m, w, h1, h2, m.le_refl, h.inv⟩
  cases op with
  | build t parts =>
    simp only [vop] at hx
    obtain ⟨pl, hpl, hx⟩ := Option.bind_eq_some_iff.1 hx
    obtain ⟨z, hz, hx⟩ := Option.bind_eq_some_iff.1 hx
    obtain ⟨ps, hps, hx⟩ := Option.bind_eq_some_iff.1 hx
    simp only [Option.map_eq_some_iff] at hx
    obtain ⟨out, hl, rfl⟩ := hx
    obtain ⟨i, u, hi, hu, hv⟩ := zeroT_spec hz m
    obtain ⟨r, h1, h2⟩ := lay_fill (parts_spec h hps) hl hv
    unfold placesT at hpl
    obtain ⟨d, hd, hpl⟩ := Option.bind_eq_some_iff.1 hpl
    cases d <;> simp only [] at hpl <;> try (simp at hpl; done)
    rename_i fs
    have hb : P.built t (parts.map fun (i, x) => (i, a.eval x)).toList = some r := by
      simp only [Program.built, hi, hd, hu, hpl]
      simpa using h1
    refine ⟨.agg r, m, w, ?_, by simpa using V.agg h2, m.le_refl, h.inv⟩
    have := run_build (P := P) w t (parts.map fun (i, x) => (i, a.eval x)) r hb
    simp [execOp, this]
  | buildSlice t len parts =>
    simp only [vop] at hx
    obtain ⟨e, he, hx⟩ := Option.bind_eq_some_iff.1 hx
    obtain ⟨sz, hs, hx⟩ := Option.bind_eq_some_iff.1 hx
    obtain ⟨ps, hps, hx⟩ := Option.bind_eq_some_iff.1 hx
    split at hx <;> simp at hx
    rename_i hc
    subst hx
    obtain ⟨h1, h2, r, h3, h4⟩ := bslice_run h he hs hps hc.1 hc.2
    refine ⟨.slice (some ⟨w.heap.size, 0, none⟩) len len, m.add w.heap.size r.toList, w.alloc (.cells r e), by simp [execOp, h4], ?_, add_le h.inv _, h.inv.alloc r e⟩
    have := V.row (m := m.add w.heap.size r.toList) (es := ps.map (·.2)) (vs := r.toList) (b := w.heap.size) (o := 0) (cap := len) (sz := sz) h1 (h3.mono (add_le h.inv _)) (fun j v hj => by simp [Imm.add]; simpa using hj) (by omega)
    rwa [h2] at this
  | convert src dst' p =>
    simp only [vop] at hx
    split at hx
    · rename_i hc
      rw [Bool.and_eq_true] at hc
      have hd := strT_spec hc.1
      have hb := hc.2
      unfold byteRowT at hb
      split at hb
      · rename_i e he
        rw [Bool.and_eq_true] at hb
        have hi : intT P e = some .u8 := by simpa using hb.1
        obtain ⟨v, hv, hx⟩ := Option.bind_eq_some_iff.1 hx
        obtain ⟨es, hes, hx⟩ := Option.bind_eq_some_iff.1 hx
        simp only [Option.map_eq_some_iff] at hx
        obtain ⟨ns, hns, rfl⟩ := hx
        have ev := look_eval h hv
        refine ⟨.string (mkS ns), m, w, ?_, .v _, m.le_refl, h.inv⟩
        rcases ev.rows hes with ⟨A, C, h1, rfl⟩ | ⟨b, o, cap, vs, h1, h2, h3, h4, h5⟩
        · simp [bytesI] at hns
          subst hns
          have hr := run_convert_bytes_string w src dst' e A 0 C (elemT_spec he) (intT_spec hi) hd
          cases A with
          | none => simp [execOp, h1, hr, Conv.bytesToString, mkS]
          | some a0 =>
            have := run_bytesToString (P := P) w a0 0 C [] (by simp [loadCells, loadCellsFrom])
            simp [execOp, h1, hr, this, mkS]
        · have hr := run_convert_bytes_string w src dst' e (some ⟨b, o, none⟩) es.length cap (elemT_spec he) (intT_spec hi) hd
          have hvs : vs = ns.map (Value.int .u8) := VC.ints (by rw [← bytesI_flat hns]; exact h3)
          have hl := run_loadCells_list (P := P) w ⟨b, o, none⟩ vs (fun j v hj => by rw [add_at]; exact h.inv.imm _ _ _ (h4 j v hj))
          have hlen : vs.length = es.length := by rw [← h3.length, flat_len h2, Nat.mul_one]
          rw [hlen, hvs] at hl
          have := run_bytesToString (P := P) w ⟨b, o, none⟩ es.length cap ns hl
          simp [execOp, h1, hr, this, mkS]
      · cases hb
    · exact other hx
  | _ => exact other hx
end Go.Ab
