/- A part of the proof of the seat's rows, said of the kit's own model: appending, first part: tips of rows. Conditions: as each theorem says. -/
import Derived.Test.YthhhklmdceieaaaAb5
namespace Go.Ab
open Go Go.RowKit
set_option linter.unusedVariables false
set_option linter.unusedSimpArgs false

theorem zeroCells_size (z : Array Value) (n : Nat) : (Builtin.zeroCells z n).size = n * z.size := by simp [Builtin.zeroCells]
/-- A row that may be appended to. -/
def AV.base? (sz : Nat) : AV → Option (Hdr × List (List AV))
  | .own h es => if h.sz = sz then some (h, es) else none
  | .v (.slice none 0 0) => some (⟨none, 0, 0, sz⟩, [])
  | _ => none
/-- A new block, of which a part is told and the rest may be appended to. -/
theorem Inv.tipNew {B : Nat} {w0 : World} {m : Imm} {σ : Sg} {w : World} (h : Inv B w0 m σ w) {T : Hdr → Option Nat} {h0 : Hdr} {n0 n c sz : Nat} (hT : σ.tips = tipSet T h0 n0) (hF : Free T h0) {us zs : Array Value} (t : TypeId) (hn : us.size = n * sz) (hc : n ≤ c) (hz : n * sz + zs.size = c * sz) :
    m.le (m.add w.heap.size us.toList) ∧ Free T ⟨some w.heap.size, 0, c, sz⟩ ∧ Inv B w0 (m.add w.heap.size us.toList) { σ with tips := tipSet T ⟨some w.heap.size, 0, c, sz⟩ n } (w.alloc (.cells (us ++ zs) t)) := by
  have hle := add_le h us.toList
  have old : ∀ hd k, T hd = some k → hd ≠ h0 ∨ h0.blk = none → σ.tips hd = some k := fun hd k hk hne => by
    rw [hT]; unfold tipSet
    rw [if_neg]
    · exact hk
    · rintro ⟨e, e2⟩
      rcases hne with hne | hne
      · exact hne e
      · rw [e, hne] at e2; cases e2
  have free : ∀ hd k, T hd = some k → hd.blk ≠ some w.heap.size := fun hd k hk e => by
    by_cases e0 : hd = h0
    · have := hF (by rw [← e0, e]; rfl)
      rw [e0, this] at hk; cases hk
    · exact absurd (h.lt_tip (old hd k hk (.inl e0)) e) (Nat.lt_irrefl _)
  have back : ∀ hd k b, tipSet T ⟨some w.heap.size, 0, c, sz⟩ n hd = some k → hd.blk = some b → (hd = ⟨some w.heap.size, 0, c, sz⟩ ∧ k = n) ∨ (T hd = some k ∧ σ.tips hd = some k ∧ b < w.heap.size) := fun hd k b hk hb => by
    unfold tipSet at hk
    split at hk
    · rename_i e
      exact .inl ⟨e.1, by simpa using hk.symm⟩
    · by_cases e0 : hd = h0
      · have := hF (by rw [← e0, hb]; rfl)
        rw [e0, this] at hk; cases hk
      · have := old hd k hk (.inl e0)
        exact .inr ⟨hk, this, h.lt_tip this hb⟩
  refine ⟨hle, fun _ => ?_, h.base.alloc h.size _, by have := h.size; simp; omega, fun b o u hu => ?_, fun b cs hb => ?_, fun hd k ht b hb => ?_, fun b cs hd k hb ht e => ?_, fun h1 h2 n1 n2 b t1 t2 e1 e2 => ?_⟩
  · cases hk : T ⟨some w.heap.size, 0, c, sz⟩ with
    | none => rfl
    | some k => exact absurd rfl (free _ k hk)
  · by_cases e : b = w.heap.size
    · subst e
      simp only [Imm.add, if_true] at hu
      rw [World.cell?_alloc_new]
      have hlt : o < us.size := by have := (List.getElem?_eq_some_iff.1 hu).1; simpa using this
      rw [Array.getElem?_append_left hlt]; simpa using hu
    · simp only [Imm.add, if_neg e] at hu
      rw [World.cell?_alloc_old _ _ _ e]
      exact h.imm _ _ _ hu
  · obtain ⟨h1, h2, vs, t', h3, h4⟩ := h.var b cs hb
    have hlt := h.lt_var hb
    exact ⟨h1, fun o => by simp [Imm.add, Nat.ne_of_lt hlt, h2], vs, t', by rw [heap_old hlt]; exact h3, h4.mono hle⟩
  · rcases back hd k b ht hb with ⟨rfl, rfl⟩ | ⟨_, h1, hlt⟩
    · simp only [Option.some.injEq] at hb
      subst hb
      refine ⟨h.size, hc, fun o ho => ?_, us ++ zs, t, heap_new w _, by simp; omega⟩
      simp only [Imm.add, if_true]
      rw [List.getElem?_eq_none (by simp at ho ⊢; omega)]
    · obtain ⟨a1, a2, a3, vs, t', a4, a5⟩ := h.tip hd k h1 b hb
      exact ⟨a1, a2, fun o ho => by simp [Imm.add, Nat.ne_of_lt hlt, a3 o ho], vs, t', by rw [heap_old hlt]; exact a4, a5⟩
  · rcases back hd k b ht e with ⟨rfl, rfl⟩ | ⟨_, h1, hlt⟩
    · simp only [Option.some.injEq] at e
      exact absurd (h.lt_var hb) (by omega)
    · exact h.sep b cs hd k hb h1 e
  · rcases back h1 n1 b t1 e1 with ⟨rfl, rfl⟩ | ⟨_, q1, hlt1⟩
    · rcases back h2 n2 b t2 e2 with ⟨rfl, rfl⟩ | ⟨_, q2, hlt2⟩
      · rfl
      · simp only [Option.some.injEq] at e1; omega
    · rcases back h2 n2 b t2 e2 with ⟨rfl, rfl⟩ | ⟨_, q2, hlt2⟩
      · simp only [Option.some.injEq] at e2; omega
      · exact h.sep2 h1 h2 n1 n2 b q1 q2 e1 e2
/-- In place: what stood free is told now. -/
def Imm.lay (m : Imm) (b o : Nat) (vs : List Value) : Imm := fun b' o' => if b' = b ∧ o ≤ o' ∧ o' < o + vs.length then vs[o' - o]? else m b' o'
theorem Inv.tipLay {B : Nat} {w0 : World} {m : Imm} {σ : Sg} {w : World} (h : Inv B w0 m σ w) {T : Hdr → Option Nat} {hd : Hdr} {b n k : Nat} (hb : hd.blk = some b) (hT : σ.tips = tipSet T hd n) (hF : Free T hd) {us : List Value} (hk : us.length = k * hd.sz) (hcap : n + k ≤ hd.cap)
    {vs : Array Value} {t : TypeId} (hh : w.heap[b]? = some (.cells vs t (0, 0))) :
    m.le (m.lay b (hd.off + n * hd.sz) us) ∧ Inv B w0 (m.lay b (hd.off + n * hd.sz) us) { σ with tips := tipSet T hd (n + k) } (w.setRow b (vs.toList.take (hd.off + n * hd.sz) ++ us ++ vs.toList.drop (hd.off + n * hd.sz + us.length)).toArray) := by
  have hs : hd.blk.isSome = true := by rw [hb]; rfl
  have t0 : σ.tips hd = some n := by rw [hT]; simp [tipSet, hs]
  obtain ⟨a1, a2, a3, vs', t', a4, a5⟩ := h.tip hd n t0 b hb
  obtain ⟨rfl, rfl⟩ : vs = vs' ∧ t = t' := by rw [a4] at hh; injection hh with e; injection e with e1 e2 _; exact ⟨e1.symm, e2.symm⟩
  have hle2 : n * hd.sz + k * hd.sz ≤ hd.cap * hd.sz := by rw [← Nat.add_mul]; exact Nat.mul_le_mul_right _ hcap
  have hle : m.le (m.lay b (hd.off + n * hd.sz) us) := fun b' o u hu => by
    unfold Imm.lay
    rw [if_neg]
    · exact hu
    · rintro ⟨rfl, h1, _⟩
      rw [a3 o h1] at hu; cases hu
  have other : ∀ (vs' : Array Value) (j : Nat), j ≠ b → (w.setRow b vs').heap[j]? = w.heap[j]? := fun vs' j hj => by
    simp only [World.setRow, Array.getElem?_modify]; rw [if_neg (Ne.symm hj)]
  have size : ∀ vs' : Array Value, (w.setRow b vs').heap.size = w.heap.size := fun _ => by simp [World.setRow]
  have hrow := setRow_heap w b vs (vs.toList.take (hd.off + n * hd.sz) ++ us ++ vs.toList.drop (hd.off + n * hd.sz + us.length)).toArray t _ hh
  have back : ∀ hd' j, tipSet T hd (n + k) hd' = some j → (hd' = hd ∧ j = n + k) ∨ (hd' ≠ hd ∧ σ.tips hd' = some j) := fun hd' j hj => by
    unfold tipSet at hj
    split at hj
    · rename_i e
      exact .inl ⟨e.1, by simpa using hj.symm⟩
    · rename_i e
      have hne : hd' ≠ hd := fun e2 => e ⟨e2, by rw [e2]; exact hs⟩
      refine .inr ⟨hne, ?_⟩
      rw [hT]; unfold tipSet; rw [if_neg (fun e2 => hne e2.1)]; exact hj
  have back' : ∀ hd' j b', tipSet T hd (n + k) hd' = some j → hd'.blk = some b' → (hd' = hd ∧ j = n + k) ∨ (b' ≠ b ∧ σ.tips hd' = some j) := fun hd' j b' hj hb' => by
    rcases back hd' j hj with e | ⟨e1, e2⟩
    · exact .inl e
    · exact .inr ⟨fun e3 => e1 (h.sep2 hd' hd j n b e2 t0 (by rw [hb', e3]) hb), e2⟩
  refine ⟨hle, h.base.trans ⟨rfl, rfl, rfl, by rw [size]; exact Nat.le_refl _, fun j hj => other _ j (by omega)⟩, by rw [size]; exact h.size, fun b' o u hu => ?_, fun b' cs hc => ?_, fun hd' j ht b' hb' => ?_, fun b' cs hd' j hc ht e => ?_, fun h1 h2 n1 n2 b' t1 t2 e1 e2 => ?_⟩
  · by_cases e : b' = b
    · subst e
      simp only [World.cell?, hrow]
      unfold Imm.lay at hu
      have hlen : hd.off + n * hd.sz + us.length ≤ vs.size := by omega
      have hl1 : (vs.toList.take (hd.off + n * hd.sz)).length = hd.off + n * hd.sz := by simp; omega
      split at hu
      · rename_i hc
        simp only [Option.isSome_none, Bool.false_eq_true, if_false, List.getElem?_toArray]
        rw [List.append_assoc, List.getElem?_append_right (by omega), hl1, List.getElem?_append_left (by omega)]
        exact hu
      · rename_i hc
        have hold := h.imm _ _ _ hu
        simp only [World.cell?, hh] at hold
        simp only [Option.isSome_none, Bool.false_eq_true, if_false] at hold ⊢
        have ho : o < hd.off + n * hd.sz := by
          rcases Nat.lt_or_ge o (hd.off + n * hd.sz) with h1 | h1
          · exact h1
          · rw [a3 o h1] at hu; cases hu
        simp only [List.getElem?_toArray]
        rw [List.append_assoc, List.getElem?_append_left (by omega), List.getElem?_take, if_pos ho]
        simpa using hold
    · rw [World.cell?_of_block (w := w) (other _ b' e)]
      refine h.imm _ _ _ ?_
      unfold Imm.lay at hu
      rwa [if_neg (fun x => e x.1)] at hu
  · have e : b' ≠ b := fun e => h.sep b' cs hd n hc t0 (by rw [hb, e])
    obtain ⟨h1, h2, us', t', h3, h4⟩ := h.var b' cs hc
    exact ⟨h1, fun o => by unfold Imm.lay; rw [if_neg (fun x => e x.1)]; exact h2 o, us', t', by rw [other _ b' e]; exact h3, h4.mono hle⟩
  · rcases back' hd' j b' ht hb' with ⟨rfl, rfl⟩ | ⟨e, q⟩
    · obtain rfl : b = b' := by rw [hb] at hb'; simpa using hb'
      refine ⟨a1, hcap, fun o ho => ?_, _, t, hrow, by simp; omega⟩
      rw [Nat.add_mul] at ho
      unfold Imm.lay
      rw [if_neg (by rintro ⟨_, _, h3⟩; omega)]
      exact a3 o (by omega)
    · obtain ⟨h1, h2, h3, us', t', h4, h5⟩ := h.tip hd' j q b' hb'
      exact ⟨h1, h2, fun o ho => by unfold Imm.lay; rw [if_neg (fun x => e x.1)]; exact h3 o ho, us', t', by rw [other _ b' e]; exact h4, h5⟩
  · rcases back' hd' j b' ht e with ⟨rfl, rfl⟩ | ⟨_, q⟩
    · exact h.sep b' cs hd' n hc t0 e
    · exact h.sep b' cs hd' j hc q e
  · rcases back h1 n1 t1 with ⟨rfl, rfl⟩ | ⟨_, q1⟩
    · rcases back h2 n2 t2 with ⟨rfl, rfl⟩ | ⟨_, q2⟩
      · rfl
      · exact h.sep2 h1 h2 n n2 b' t0 q2 e1 e2
    · rcases back h2 n2 t2 with ⟨rfl, rfl⟩ | ⟨_, q2⟩
      · exact h.sep2 h1 h2 n1 n b' q1 t0 e1 e2
      · exact h.sep2 h1 h2 n1 n2 b' q1 q2 e1 e2
end Go.Ab
