/- A row of bytes copied over the beginning of a row of the call's own: one event of a walk. -/
import Derived.Laws.CopyOwn
import Derived.Test.YtandeendeoempaaExt
namespace Go.Proofs.Ytandeendeoempaa.Ext
open Go.RowKit Go.Proofs.YtandeendeoempaaW.PrintWords Go.Proofs.YtandeendeoempaaW.PrintLast Go.Proofs.YtandeendeoempaaW.PrintMore
def copyL (xs ys : List Int) : List Int := ys.take xs.length ++ xs.drop ys.length
theorem copyL_length (xs ys : List Int) : (copyL xs ys).length = xs.length := by simp [copyL]; omega
theorem R_copy_rows {P : Program} {ops : Array Oper} {Q : Exit → Act → World → Prop} {rest : List Oper} {o : Oper} {a : Act} {w0 W : World} (base : Nat) (hgd : o.guard = none) (s x : Operand) (t e : TypeId)
    (ho : o.op = .call { callee := .builtin .copy, args := #[s, x], argTypes := #[t, t] }) (ht : P.underlying t = some (.slice e)) (hsz : (P.info? e).map (·.size) = some 1)
    (v : Value) (xs ys : List Int) (A : Option Addr) (m c : Nat) (ok : Nat → Prop) (hs : a.eval s = v) (hx : a.eval x = .slice A m c)
    (HO : (Kd.int .u8).R e W base ok v xs) (HR : (Kd.int .u8).C W A m ys) (_hfresh : ∀ k, W.heap.size ≤ k → ok k) (HB : Below base w0 W) (_hbase : base ≤ W.heap.size) (_hl : xs.length + m < 9223372036854775808)
    (h : ∀ v1 w1, (Kd.int .u8).R e w1 base ok v1 (copyL xs ys) → Below base w0 w1 → W.grownBy w1 v.ownBlock → (v1.ownBlock = v.ownBlock ∨ ∃ b, v1.ownBlock = some b ∧ W.heap.size ≤ b) → v1 = v → wpList P ops Q rest (a.put o.dst (.int .i64 (min ys.length xs.length : Nat))) w1) :
    wpList P ops Q (o :: rest) a W := by
  have hr : ReadsOf (Value.int .u8) (0 : Int) W A m ys := Kd.reads_of_C (enc := Value.int .u8) (d := (0 : Int)) (h1 := fun _ => rfl) HR
  obtain ⟨hm, _, hc⟩ := hr
  have how := Kd.own_of_R HO
  rcases how.2 with ⟨rfl, h0⟩ | ⟨g, cap, cur, rfl, hb, hg, hle, hcm, hsz', htk⟩
  · have hxs : xs = [] := List.eq_nil_of_length_eq_zero h0
    subst hxs
    refine wpList_copy_nothing hgd s x t t ho e ht hsz none A 0 0 m c hs hx (by simp) ?_
    have := h _ _ (by simpa [copyL] using HO) HB ⟨rfl, rfl, rfl, Nat.le_refl _, fun _ _ _ => rfl⟩ (.inl rfl) rfl
    rw [show min ys.length ([] : List Int).length = 0 by simp] at this
    exact this
  · have hn : ((ys.take xs.length).map (Value.int .u8)).length = Nat.min m xs.length := by simp [Nat.min_comm, hm]
    by_cases hz : 0 < ((ys.take xs.length).map (Value.int .u8)).length
    · have hm0 : 0 < m := by
        simp at hz
        omega
      obtain ⟨ad, rfl, hcell⟩ := hc hm0
      refine wpList_copy_own hgd s x t t ho e ht hsz g 0 xs.length cap ad m c hs hx cur e hg _ hn (fun j u hj => ?_) (by simp at hn ⊢; omega) (fun u hu => ?_) ?_
      · simp only [List.getElem?_map, Option.map_eq_some_iff] at hj
        obtain ⟨y, hy, rfl⟩ := hj
        obtain ⟨hj1, hj2⟩ := List.getElem?_eq_some_iff.1 hy
        simp at hj1
        rw [hcell j (by omega), List.getD_eq_getElem?_getD, List.getElem?_eq_getElem (by omega)]
        simp at hj2
        simp [hj2]
      · obtain ⟨y, _, rfl⟩ := List.mem_map.1 hu
        rfl
      · have e1 : min ys.length xs.length = ((ys.take xs.length).map (Value.int .u8)).length := by simp [Nat.min_comm]
        have hk := h (.slice (some ⟨g, 0, none⟩) xs.length cap) (W.setRow g (cur.toList.take 0 ++ ((ys.take xs.length).map (Value.int .u8) ++ cur.toList.drop (0 + ((ys.take xs.length).map (Value.int .u8)).length))).toArray)
          (Kd.R_of_own (h1 := fun _ => rfl) (enc := Value.int .u8) ?_ HO.1) (below_setRow HB hb _) ⟨rfl, rfl, rfl, by simp [World.setRow], fun k _ hk => setRow_other W g k _ (fun e_ => hk (by simp [Value.ownBlock, e_]))⟩ (.inl rfl) rfl
        · rw [e1] at hk
          exact hk
        · refine ⟨by simp [encs, copyL_length], .inr ⟨g, cap, _, by rw [copyL_length], hb, setRow_heap W g cur _ e _ hg, by rw [copyL_length]; exact hle, hcm, ?_, ?_⟩⟩
          · simp at hz hn hsz' ⊢
            omega
          · have ht2 : cur.toList.take xs.length = encs (Value.int .u8) xs := by simpa using htk
            have e2 : ((ys.take xs.length).map (Value.int .u8)).length = min ys.length xs.length := e1.symm
            have e3 : encs (Value.int .u8) (copyL xs ys) = (ys.take xs.length).map (Value.int .u8) ++ (encs (Value.int .u8) xs).drop ((ys.take xs.length).map (Value.int .u8)).length := by
              rw [e2]
              simp only [encs, copyL, List.map_append, ← List.map_drop]
              congr 2
              rcases Nat.le_total ys.length xs.length with h1 | h1
              · rw [Nat.min_eq_left h1]
              · rw [Nat.min_eq_right h1, List.drop_of_length_le h1, List.drop_of_length_le (Nat.le_refl _)]
            rw [e3, ← ht2, copyL_length, Nat.mul_one, List.take_zero, List.nil_append, Nat.zero_add, List.take_append, List.drop_take]
            generalize (ys.take xs.length).map (Value.int .u8) = p at *
            rw [List.take_of_length_le (by omega)]
    · have hz0 : ((ys.take xs.length).map (Value.int .u8)).length = 0 := by omega
      have hcp : copyL xs ys = xs := by
        simp at hz0
        rcases hz0 with h1 | h1 <;> simp [copyL, h1]
      refine wpList_copy_nothing hgd s x t t ho e ht hsz (some ⟨g, 0, none⟩) A xs.length cap m c hs hx (by rw [hz0] at hn; exact hn.symm) ?_
      have := h _ _ (by rw [hcp]; exact HO) HB ⟨rfl, rfl, rfl, Nat.le_refl _, fun _ _ _ => rfl⟩ (.inl rfl) rfl
      have e1 : min ys.length xs.length = 0 := by
        simp at hz0
        rcases hz0 with h1 | h1 <;> simp [h1]
      rw [e1] at this
      exact this
end Go.Proofs.Ytandeendeoempaa.Ext
