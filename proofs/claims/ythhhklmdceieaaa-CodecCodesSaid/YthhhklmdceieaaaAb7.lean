/- A part of the proof of the seat's rows, said of the kit's own model: appending, second part: rows that grow. Conditions: as each theorem says. -/
import Derived.Test.YthhhklmdceieaaaAb6
namespace Go.Ab
open Go Go.RowKit
set_option linter.unusedVariables false
set_option linter.unusedSimpArgs false

def byteT (P : Program) (t : TypeId) : Option Nat := (P.info? t).map (·.bytes)
def notInt (P : Program) (t : TypeId) : Bool := (elemT P t).isSome
theorem notInt_run {P : Program} {t : TypeId} (h : notInt P t = true) (w : World) : ∃ d, (underlying t).run P w = .ok (.slice d) w := by
  obtain ⟨e, he⟩ := Option.isSome_iff_exists.1 h
  exact ⟨e, run_underlying (elemT_spec he) w⟩
section
variable {P : Program} {t t' ty e : TypeId} {i : TypeInfo} {z : Value} (ht : P.underlying t = some (.slice e)) (ht' : notInt P t' = true) (hi : P.info? e = some i) (hz : i.zero = some z)
include ht ht' hi
theorem append_in (w : World) (b o n cap k : Nat) (yv : Value) (us : List Value) (vs : Array Value) (t2 : TypeId) (hl : ∀ w, (Builtin.lenOf yv).run P w = .ok k w) (hf : (Builtin.firstCells i.size k yv).run P w = .ok us.toArray w)
    (hn : n + k ≤ cap) (hh : w.heap[b]? = some (.cells vs t2 (0, 0))) (hfit : o + n * i.size + us.length ≤ vs.size) (h1 : ∀ v ∈ us, v.oneCell' = true) :
    (Builtin.append_ #[t, t'] ty #[.slice (some ⟨b, o, none⟩) n cap, yv]).run P w = .ok (.slice (some ⟨b, o, none⟩) (n + k) cap) (w.setRow b (vs.toList.take (o + n * i.size) ++ us ++ vs.toList.drop (o + n * i.size + us.length)).toArray) := by
  obtain ⟨d, hd⟩ := notInt_run ht' w
  have hst := run_storeCells_at P b (o + n * i.size) t2 us 0 vs w hh (by omega) h1
  simp only [Nat.add_zero] at hst
  simp [Builtin.append_, run_underlying ht, sizeOf, typeInfo, hi, hd, hl, hn, hf, add_at, hst]
theorem append_nil (w : World) (yv : Value) (hl : ∀ w, (Builtin.lenOf yv).run P w = .ok 0 w) (hf : (Builtin.firstCells i.size 0 yv).run P w = .ok #[] w) :
    (Builtin.append_ #[t, t'] ty #[.slice none 0 0, yv]).run P w = .ok (.slice none 0 0) w := by
  obtain ⟨d, hd⟩ := notInt_run ht' w
  simp [Builtin.append_, run_underlying ht, sizeOf, typeInfo, hi, hd, hl, hf]
include hz
theorem append_new (w : World) (A : Option Addr) (n cap k : Nat) (yv : Value) (olds us : List Value) (hl : ∀ w, (Builtin.lenOf yv).run P w = .ok k w) (hf : (Builtin.firstCells i.size k yv).run P w.drew = .ok us.toArray w.drew)
    (ho : (Builtin.firstCells i.size n (.slice A n cap)).run P w.drew = .ok olds.toArray w.drew)
    (hn : cap < n + k) (h63 : ((n + k : Nat) : Int) ≤ 9223372036854775807) (hfit : Builtin.nextslicecap (n + k) cap * i.bytes ≤ 281474976710656) :
    (Builtin.append_ #[t, t'] ty #[.slice A n cap, yv]).run P w = .ok (.slice (some ⟨w.heap.size, 0, none⟩) (n + k) (grownCap w (n + k) cap e)) (w.drew.alloc (.cells ((olds ++ us).toArray ++ Builtin.zeroCells z.cells (grownCap w (n + k) cap e - (n + k))) e)) := by
  obtain ⟨d, hd⟩ := notInt_run ht' w
  have hn' : ¬ (n + k ≤ cap) := by omega
  have h63' : ¬ (9223372036854775807 < ((n : Int) + (k : Int))) := by omega
  have h48' : ¬ (281474976710656 < Builtin.nextslicecap (n + k) cap * i.bytes) := by omega
  simp [Builtin.append_, run_underlying ht, sizeOf, typeInfo, zeroValue, hi, hz, hd, hl, hn', h63', h48', Question.forced, grownCap, newRow, hf, ho]
  congr 2
  apply Array.ext'
  simp [List.append_assoc]
end

theorem rows_first {P : Program} {m : Imm} {sz : Nat} {u : AV} {y : Value} {ys : List (List AV)} (hu : V m u y) (hy : u.rows? sz = some ys) :
    (∀ w, (Builtin.lenOf y).run P w = .ok ys.length w) ∧ ∃ us, VC m ys.flatten us ∧ us.length = ys.length * sz ∧ (∀ e ∈ ys, e.length = sz) ∧ ∀ w : World, (∀ b o u, m b o = some u → w.cell? ⟨b, o, none⟩ = some u) → (Builtin.firstCells sz ys.length y).run P w = .ok us.toArray w := by
  rcases hu.rows hy with ⟨A, C, rfl, rfl⟩ | ⟨b, o, cap, vs, rfl, h1, h2, h3, h4⟩
  · refine ⟨fun w => rfl, [], .nil, by simp, by simp, fun w _ => ?_⟩
    cases A <;> simp [Builtin.firstCells, loadCells, loadCellsFrom]
  · refine ⟨fun w => rfl, vs, h2, by rw [← h2.length, flat_len h1], h1, fun w hw => ?_⟩
    have := run_loadCells_list (P := P) w ⟨b, o, none⟩ vs (fun j v hj => by rw [add_at]; exact hw _ _ _ (h3 j v hj))
    rw [← h2.length, flat_len h1] at this
    simpa [Builtin.firstCells] using this

theorem tipSet_none {T : Hdr → Option Nat} {h : Hdr} (hb : h.blk = none) (n : Nat) : tipSet T h n = T := by
  funext k
  unfold tipSet
  rw [if_neg]
  rintro ⟨rfl, e⟩
  rw [hb] at e; cases e
theorem grownCap_ge (w : World) (n cap : Nat) (e : TypeId) : n ≤ grownCap w n cap e := by
  simp [grownCap, Question.cut]

theorem AOp.append {P : Program} {o : Oper} {s : St} {K : St → Prop} {x y : Operand} {t t' e : TypeId} {sz by_ : Nat} {v u : AV} {h : Hdr} {es ys : List (List AV)} {zs : List AV} {T : Hdr → Option Nat}
    (ho : o.op = .call { callee := .builtin .append, args := #[x, y], argTypes := #[t, t'] }) (he : elemT P t = some e) (ht' : notInt P t' = true) (hsz : sizeT P e = some sz) (hby : byteT P e = some by_) (hz : zeroT P e = some zs) (hzs : zs.length = sz)
    (hx : look s x = some v) (hv : v.base? sz = some (h, es)) (hy : look s y = some u) (hu : u.rows? sz = some ys) (hd : dstOk s o.dst = true)
    (hlen : (es.length + ys.length) * by_ ≤ 140737488355328) (hlen' : es.length + ys.length ≤ 9223372036854775807) (hT : s.σ.tips = tipSet T h es.length) (hF : Free T h)
    (hK : ∀ h', h'.sz = sz → Free T h' → K ({ s with σ := { s.σ with tips := tipSet T h' (es.length + ys.length) } }.puto o.dst (.own h' (es ++ ys)))) : AOp P o s K := fun B w0 m a w hs Qc => by
  have ex := look_eval hs hx
  have ey := look_eval hs hy
  obtain ⟨i, z, hi, hzi, hzv⟩ := zeroT_spec hz m
  have hu' := elemT_spec he
  have isz : i.size = sz := by unfold sizeT at hsz; simpa [hi] using hsz
  have iby : i.bytes = by_ := by unfold byteT at hby; simpa [hi] using hby
  obtain ⟨hl, us, v1, v2, v3, v4⟩ := rows_first (P := P) ey hu
  have run : ∀ (r : Value) (w' : World), (Builtin.append_ #[t, t'] o.type #[a.eval x, a.eval y]).run P w = .ok r w' → (execOp a.eval o).run P w = .ok (.value r) w' := fun r w' hr => by
    unfold execOp; rw [ho]
    simp [resolve, invoke, builtin, hr]
  have fin : ∀ (r : Value) (w' : World) (m' : Imm) (h' : Hdr), (Builtin.append_ #[t, t'] o.type #[a.eval x, a.eval y]).run P w = .ok r w' → h'.sz = sz → Free T h' → V m' (.own h' (es ++ ys)) r → m.le m' →
      Inv B w0 m' { s.σ with tips := tipSet T h' (es.length + ys.length) } w' → o.wp P a w (fun a' w' => ∃ m' s', m.le m' ∧ Sim B w0 m' s' a' w' ∧ K s') Qc := fun r w' m' h' hr h1 h2 h3 h4 h5 => by
    unfold Oper.wp
    rw [run r w' hr]
    exact ⟨m', _, h4, hs.put h4 h5 (dstOk_spec hd) h3, hK h' h1 h2⟩
  have fresh : ∀ (A : Option Addr) (cap : Nat) (olds : List Value), a.eval x = .slice A es.length cap → VC m es.flatten olds → olds.length = es.length * sz → (∀ e ∈ es, e.length = sz) → (Builtin.firstCells i.size es.length (.slice A es.length cap)).run P w.drew = .ok olds.toArray w.drew → cap < es.length + ys.length →
      o.wp P a w (fun a' w' => ∃ m' s', m.le m' ∧ Sim B w0 m' s' a' w' ∧ K s') Qc := fun A cap olds ha w1 w2 w3 w4 w5 => by
    have hr := append_new (ty := o.type) hu' ht' hi hzi w A es.length cap ys.length (a.eval y) olds us hl (by rw [isz]; exact v4 w.drew (fun b o u hu => hs.inv.imm b o u hu)) w4 w5 (by omega) (growslice_fits w5 (by rw [iby]; exact hlen))
    rw [← ha] at hr
    have zsz : z.cells.size = sz := by have := hzv.length; simp at this; omega
    have hge := grownCap_ge w (es.length + ys.length) cap e
    generalize grownCap w (es.length + ys.length) cap e = c at hr hge
    have e1 : (olds ++ us).toArray.size = (es.length + ys.length) * sz := by simp [w2, v2, Nat.add_mul]
    obtain ⟨p1, p2, p3⟩ := Inv.tipNew (n := es.length + ys.length) (c := c) (sz := sz) hs.inv.drew hT hF (us := (olds ++ us).toArray) (zs := Builtin.zeroCells z.cells (c - (es.length + ys.length))) e e1 hge (by rw [zeroCells_size, zsz, ← Nat.add_mul]; congr 1; omega)
    refine fin _ _ _ ⟨some w.heap.size, 0, c, sz⟩ hr rfl p2 ?_ p1 p3
    have hv2 : VC (m.add w.heap.size (olds ++ us)) (es ++ ys).flatten (olds ++ us) := by
      rw [List.flatten_append]; exact (w1.append v1).mono (add_le hs.inv _)
    have := V.own (m := m.add w.heap.size (olds ++ us)) (es := es ++ ys) (vs := olds ++ us) (b := w.heap.size) (o := 0) (cap := c) (sz := sz) (fun e he => by
      rcases List.mem_append.1 he with he | he
      · exact w3 e he
      · exact v3 e he) hv2 (fun j v hj => by simp only [Imm.add, if_true, Nat.zero_add]; exact hj) (by simp; omega)
    rw [List.length_append] at this
    exact this
  have hnil : h.blk = none → es = [] → a.eval x = .slice none 0 0 → h.sz = sz → o.wp P a w (fun a' w' => ∃ m' s', m.le m' ∧ Sim B w0 m' s' a' w' ∧ K s') Qc := fun hb h0 ha hhs => by
    subst h0
    by_cases k0 : ys.length = 0
    · have hys : ys = [] := List.eq_nil_of_length_eq_zero k0
      subst hys
      have hus : us = [] := List.eq_nil_of_length_eq_zero (by simpa using v2)
      subst hus
      have hr := append_nil (ty := o.type) hu' ht' hi w (a.eval y) hl (by have := v4 w hs.inv.imm; rw [isz]; simpa using this)
      rw [← ha] at hr
      obtain ⟨hb', ho', hc', hs'⟩ := h
      simp only at hb
      subst hb
      refine fin _ _ m ⟨none, ho', hc', hs'⟩ hr hhs (fun e => by cases e) (by rw [ha]; exact .ownNil) m.le_refl ?_
      have := hs.inv
      rw [show ({ s.σ with tips := tipSet T ⟨none, ho', hc', hs'⟩ (([] : List (List AV)).length + ([] : List (List AV)).length) } : Sg) = s.σ by
        rw [show ([] : List (List AV)).length + ([] : List (List AV)).length = ([] : List (List AV)).length from rfl, ← hT]]
      exact this
    · refine fresh none 0 [] (by simpa using ha) .nil (by simp) (by simp) rfl (by simp; omega)
  unfold AV.base? at hv
  split at hv
  · rename_i h' es'
    split at hv <;> simp at hv
    rename_i hhs
    obtain ⟨e1, e2⟩ := hv
    have e1 := e1.symm
    have e2 := e2.symm
    subst e1
    subst e2
    generalize hax : a.eval x = q at ex
    cases ex with
    | ownNil => exact hnil rfl rfl hax hhs
    | @own es vs b off cap sz' c1 c2 c3 c4 =>
      simp only at hhs
      subst hhs
      have hlen2 : vs.length = es.length * sz' := by rw [← c2.length, flat_len c1]
      by_cases hin : es.length + ys.length ≤ cap
      · have t0 : s.σ.tips ⟨some b, off, cap, sz'⟩ = some es.length := by rw [hT]; simp [tipSet]
        obtain ⟨a1, a2, a3, cells, tt, a4, a5⟩ := hs.inv.tip _ _ t0 b rfl
        have hmul : es.length * sz' + ys.length * sz' ≤ cap * sz' := by rw [← Nat.add_mul]; exact Nat.mul_le_mul_right _ hin
        have hr := append_in (ty := o.type) hu' ht' hi w b off es.length cap ys.length (a.eval y) us cells tt hl (by rw [isz]; exact v4 w hs.inv.imm) hin a4 (by rw [isz, v2]; simp only at a5; omega) v1.one
        obtain ⟨p1, p2⟩ := Inv.tipLay (k := ys.length) (us := us) hs.inv (b := b) rfl hT hF v2 hin a4
        rw [← hax, isz] at hr
        refine fin _ _ _ ⟨some b, off, cap, sz'⟩ hr rfl hF ?_ p1 p2
        have hv2 : VC (m.lay b (off + es.length * sz') us) (es ++ ys).flatten (vs ++ us) := by
          rw [List.flatten_append]; exact (c2.append v1).mono p1
        have := V.own (m := m.lay b (off + es.length * sz') us) (es := es ++ ys) (vs := vs ++ us) (b := b) (o := off) (cap := cap) (sz := sz') (fun e he => by
          rcases List.mem_append.1 he with he | he
          · exact c1 e he
          · exact v3 e he) hv2 (fun j v hj => by
            rcases Nat.lt_or_ge j vs.length with hjl | hjl
            · rw [List.getElem?_append_left hjl] at hj
              exact p1 _ _ _ (c3 j v hj)
            · rw [List.getElem?_append_right hjl] at hj
              have hlt := (List.getElem?_eq_some_iff.1 hj).1
              unfold Imm.lay
              rw [if_pos ⟨rfl, by omega, by omega⟩, ← hj]
              congr 1; omega) (by simp; omega)
        rw [List.length_append] at this
        exact this
      · refine fresh (some ⟨b, off, none⟩) cap vs hax c2 hlen2 c1 ?_ (by omega)
        have := run_loadCells_list (P := P) w.drew ⟨b, off, none⟩ vs (fun j v hj => by rw [add_at]; exact hs.inv.imm _ _ _ (c3 j v hj))
        rw [hlen2, ← isz] at this
        simpa [Builtin.firstCells] using this
  · simp at hv
    obtain ⟨rfl, rfl⟩ := hv
    generalize hax : a.eval x = q at ex
    cases ex
    exact hnil rfl rfl hax rfl
  · simp at hv
end Go.Ab
