/- What the readers of package octets and of the document read, whatever the bytes: one plain function for both, and what is known of it. -/
import Derived.Test.YtlhjdmpclfhoeaaOctReplyBatches
import Derived.Test.YtlhjdmpclfhoeaaPJx0
namespace Go.Proofs.Ytlhjdmpclfhoeaa.RdE
open Go.RowKit Go.Proofs.YtlhjdmpclfhoeaaW.PrintWords Go.Proofs.YtlhjdmpclfhoeaaW.PrintLast Go.Proofs.YtlhjdmpclfhoeaaW.PrintMore Go.Proofs.Ytlhjdmpclfhoeaa.PJ Go.Proofs.Ytlhjdmpclfhoeaa.Base Go.Proofs.Ytlhjdmpclfhoeaa.Oct

def numE (B : List Int) (a e sz : Int) : Int × Int × Int :=
  if e = 0 then (if (getE B a sz).2 = 0 then ((getE B a sz).1, a + sz, 0) else (0, a, (getE B a sz).2)) else (0, a, e)
def bytesE (B : List Int) (a e n : Int) : List Int × Int × Int :=
  if e = 0 then (if n < 0 ∨ (B.length : Int) - a < n then ([], a, 3) else ((B.drop a.toNat).take n.toNat, a + n, 0)) else ([], a, e)
def textE (B : List Int) (a e most : Int) : List Int × Int × Int :=
  if e = 0 then
    (if (getE B a 2).2 = 0 then
      (if most < (getE B a 2).1 then ([], a, 5)
      else if (B.length : Int) - (a + 2) < (getE B a 2).1 then ([], a, 3)
      else ((B.drop (a + 2).toNat).take (getE B a 2).1.toNat, a + 2 + (getE B a 2).1, 0))
    else ([], a, (getE B a 2).2))
  else ([], a, e)
def flagE (B : List Int) (a e : Int) : Bool × Int × Int :=
  if e = 0 then (if a < (B.length : Int) then (if 1 < rd B a then (false, a, 4) else (rd B a == 1, a + 1, 0)) else (false, a, 3)) else (false, a, e)
def endE (B : List Int) (a e : Int) : Int := if e = 0 then (if a < (B.length : Int) then 5 else 0) else e

theorem getE_err {B : List Int} {a sz : Int} (h : (getE B a sz).2 ≠ 0) : (getE B a sz).1 = 0 := by
  unfold getE at h ⊢
  by_cases c1 : sz < 1 ∨ 8 < sz
  · rw [if_pos c1]
  · rw [if_neg c1] at h ⊢
    by_cases c2 : a < 0 ∨ (B.length : Int) < a ∨ (B.length : Int) - a < sz
    · rw [if_pos c2]
    · rw [if_neg c2] at h; exact absurd rfl h
theorem getE_ok {B : List Int} {a sz : Int} (h : (getE B a sz).2 = 0) : 1 ≤ sz ∧ sz ≤ 8 ∧ 0 ≤ a ∧ a + sz ≤ B.length ∧ getE B a sz = (getB ((B.drop a.toNat).take sz.toNat), 0) := by
  unfold getE at h ⊢
  by_cases c1 : sz < 1 ∨ 8 < sz
  · rw [if_pos c1] at h; cases h
  · rw [if_neg c1] at h ⊢
    by_cases c2 : a < 0 ∨ (B.length : Int) < a ∨ (B.length : Int) - a < sz
    · rw [if_pos c2] at h; cases h
    · rw [if_neg c2]; exact ⟨by omega, by omega, by omega, by omega, rfl⟩
theorem getE_at {B p q : List Int} {n : Int} {d : Nat} (hB : B = p ++ putB n d ++ q) (h0 : 0 ≤ n) (h1 : n < 256 ^ d) (hd1 : 1 ≤ d) (hd8 : d ≤ 8) : getE B (p.length : Int) (d : Int) = (n, 0) := by
  have hlen : B.length = p.length + d + q.length := by rw [hB]; simp [putB_length]; omega
  unfold getE
  rw [if_neg (by omega), if_neg (by omega), Int.toNat_natCast, Int.toNat_natCast, hB, List.append_assoc, List.drop_left' rfl, List.take_left' (by rw [putB_length]), getB_putB_id h0 h1]

/-! what is read where the bytes are known -/
theorem numE_at {B p q : List Int} {n : Int} {d : Nat} (hB : B = p ++ putB n d ++ q) (h0 : 0 ≤ n) (h1 : n < 256 ^ d) (hd1 : 1 ≤ d) (hd8 : d ≤ 8) (a sz : Int) (ha : a = p.length) (hs : sz = d) : numE B a 0 sz = (n, a + d, 0) := by
  subst ha; subst hs
  unfold numE
  rw [if_pos rfl, getE_at hB h0 h1 hd1 hd8, if_pos rfl]
theorem bytesE_at {B p t q : List Int} (hB : B = p ++ t ++ q) (a n : Int) (ha : a = p.length) (hn : n = t.length) : bytesE B a 0 n = (t, a + t.length, 0) := by
  subst ha; subst hn
  have hlen : B.length = p.length + t.length + q.length := by rw [hB]; simp; omega
  unfold bytesE
  rw [if_pos rfl, if_neg (by omega), Int.toNat_natCast, Int.toNat_natCast, hB, List.append_assoc, List.drop_left' rfl, List.take_left' rfl]
theorem textE_at {B p t q : List Int} (hB : B = p ++ putB (t.length : Int) 2 ++ t ++ q) (ht : t.length < 65536) (most : Int) (hm : (t.length : Int) ≤ most) (a : Int) (ha : a = p.length) : textE B a 0 most = (t, a + 2 + t.length, 0) := by
  have p2 : (256 : Int) ^ 2 = 65536 := by decide
  have hlen : B.length = p.length + 2 + t.length + q.length := by rw [hB]; simp [putB_length]; omega
  have hg : getE B a 2 = ((t.length : Int), 0) := by
    rw [ha]
    exact getE_at (B := B) (p := p) (q := t ++ q) (d := 2) (by rw [hB]; simp) (by omega) (by rw [p2]; omega) (by omega) (by omega)
  unfold textE
  rw [if_pos rfl, hg, if_pos rfl, if_neg (by omega)]
  dsimp only
  rw [if_neg (by omega), Int.toNat_natCast, ha, show ((p.length : Int) + 2).toNat = (p ++ putB (t.length : Int) 2).length from by simp [putB_length]; omega, hB, List.append_assoc (p ++ _), List.drop_left' rfl, List.take_left' rfl]
theorem flagE_at {B p q : List Int} {f : Bool} (hB : B = p ++ [if f then 1 else 0] ++ q) (a : Int) (ha : a = p.length) : flagE B a 0 = (f, a + 1, 0) := by
  have hr : rd B a = if f then 1 else 0 := by
    rw [ha, hB]
    simp [rd, List.getD_eq_getElem?_getD]
  have hlen : B.length = p.length + 1 + q.length := by rw [hB]; simp; omega
  unfold flagE
  rw [if_pos rfl, if_pos (by omega), hr]
  cases f
  · rw [if_neg (by decide)]; rfl
  · rw [if_neg (by decide)]; rfl
theorem endE_at {B : List Int} {a : Int} (h : a = B.length) : endE B a 0 = 0 := by
  unfold endE
  rw [if_pos rfl, if_neg (by omega)]

/-! what is known where no error came -/
theorem take_split (B : List Int) (a n : Nat) : B.take (a + n) = B.take a ++ (B.drop a).take n := by
  rw [List.take_add]
theorem numE_got {B : List Int} (hb : Bytes B) {a e sz v a' : Int} (h : numE B a e sz = (v, a', 0)) :
    e = 0 ∧ 1 ≤ sz ∧ sz ≤ 8 ∧ 0 ≤ a ∧ a' = a + sz ∧ a' ≤ B.length ∧ 0 ≤ v ∧ v < 256 ^ sz.toNat ∧ B.take a'.toNat = B.take a.toNat ++ putB v sz.toNat := by
  unfold numE at h
  by_cases he : e = 0
  · rw [if_pos he] at h
    by_cases hg : (getE B a sz).2 = 0
    · rw [if_pos hg] at h
      obtain ⟨h1, h2, h3, h4, h5⟩ := getE_ok hg
      simp only [Prod.mk.injEq] at h
      obtain ⟨rfl, rfl, _⟩ := h
      have hl : ((B.drop a.toNat).take sz.toNat).length = sz.toNat := by simp; omega
      have hbb := getB_bound (bytes_take (bytes_drop hb a.toNat) sz.toNat)
      rw [hl] at hbb
      rw [h5]
      refine ⟨he, h1, h2, h3, rfl, h4, hbb.1, hbb.2, ?_⟩
      rw [putB_getB _ _ hl (bytes_take (bytes_drop hb _) _), show (a + sz).toNat = a.toNat + sz.toNat by omega, take_split]
    · rw [if_neg hg] at h
      simp only [Prod.mk.injEq] at h
      exact absurd h.2.2 hg
  · rw [if_neg he] at h
    simp only [Prod.mk.injEq] at h
    exact absurd h.2.2 he
theorem bytesE_got {B : List Int} {a e n : Int} {t : List Int} {a' : Int} (ha : 0 ≤ a) (h : bytesE B a e n = (t, a', 0)) :
    e = 0 ∧ n = t.length ∧ a' = a + n ∧ a' ≤ B.length ∧ B.take a'.toNat = B.take a.toNat ++ t := by
  unfold bytesE at h
  by_cases he : e = 0
  · rw [if_pos he] at h
    by_cases hc : n < 0 ∨ (B.length : Int) - a < n
    · rw [if_pos hc] at h; simp at h
    · rw [if_neg hc] at h
      simp only [Prod.mk.injEq] at h
      obtain ⟨rfl, rfl, _⟩ := h
      refine ⟨he, by simp; omega, rfl, by omega, ?_⟩
      rw [show (a + n).toNat = a.toNat + n.toNat by omega, take_split]
  · rw [if_neg he] at h
    simp only [Prod.mk.injEq] at h
    exact absurd h.2.2 he
theorem textE_got {B : List Int} (hb : Bytes B) {a e most : Int} {t : List Int} {a' : Int} (h : textE B a e most = (t, a', 0)) :
    e = 0 ∧ (t.length : Int) ≤ most ∧ t.length < 65536 ∧ 0 ≤ a ∧ a' = a + 2 + t.length ∧ a' ≤ B.length ∧ B.take a'.toNat = B.take a.toNat ++ putB (t.length : Int) 2 ++ t := by
  have p2 : (256 : Int) ^ (Int.toNat 2) = 65536 := by decide
  unfold textE at h
  by_cases he : e = 0
  · rw [if_pos he] at h
    by_cases hg : (getE B a 2).2 = 0
    · rw [if_pos hg] at h
      have hn : numE B a 0 2 = ((getE B a 2).1, a + 2, 0) := by unfold numE; rw [if_pos rfl, if_pos hg]
      obtain ⟨_, _, _, h3, _, h4, h5, h6, h7⟩ := numE_got hb hn
      rw [p2] at h6
      generalize (getE B a 2).1 = n at *
      by_cases c1 : most < n
      · rw [if_pos c1] at h; simp at h
      rw [if_neg c1] at h
      by_cases c2 : (B.length : Int) - (a + 2) < n
      · rw [if_pos c2] at h; simp at h
      rw [if_neg c2] at h
      simp only [Prod.mk.injEq] at h
      obtain ⟨rfl, rfl, _⟩ := h
      have hl : (((B.drop (a + 2).toNat).take n.toNat).length : Int) = n := by simp; omega
      rw [hl]
      refine ⟨he, by omega, by omega, h3, rfl, by omega, ?_⟩
      rw [show (a + 2 + n).toNat = (a + 2).toNat + n.toNat by omega, take_split, h7]; rfl
    · rw [if_neg hg] at h
      simp only [Prod.mk.injEq] at h
      exact absurd h.2.2 hg
  · rw [if_neg he] at h
    simp only [Prod.mk.injEq] at h
    exact absurd h.2.2 he
theorem flagE_got {B : List Int} (hb : Bytes B) {a e : Int} {f : Bool} {a' : Int} (ha : 0 ≤ a) (h : flagE B a e = (f, a', 0)) :
    e = 0 ∧ a' = a + 1 ∧ a' ≤ B.length ∧ B.take a'.toNat = B.take a.toNat ++ [if f then 1 else 0] := by
  unfold flagE at h
  by_cases he : e = 0
  · rw [if_pos he] at h
    by_cases h1 : a < (B.length : Int)
    · rw [if_pos h1] at h
      have hr := rd_byte hb a
      by_cases h2 : 1 < rd B a
      · rw [if_pos h2] at h; simp at h
      · rw [if_neg h2] at h
        simp only [Prod.mk.injEq] at h
        obtain ⟨rfl, rfl, _⟩ := h
        refine ⟨he, rfl, by omega, ?_⟩
        rw [show (a + 1).toNat = a.toNat + 1 by omega, take_split]
        congr 1
        have hd : B.drop a.toNat = rd B a :: B.drop (a.toNat + 1) := by
          have := rd_drop (l := B) (i := a.toNat) (by omega)
          rwa [Int.toNat_of_nonneg ha] at this
        rw [hd, List.take_succ_cons, List.take_zero]
        by_cases h3 : rd B a = 1
        · simp [h3]
        · have : rd B a = 0 := by omega
          simp [this]
    · rw [if_neg h1] at h; simp at h
  · rw [if_neg he] at h
    simp only [Prod.mk.injEq] at h
    exact absurd h.2.2 he

/-! where one stands -/
theorem numE_at_le {B : List Int} {a e sz : Int} (h0 : 0 ≤ a) (h1 : a ≤ B.length) : 0 ≤ (numE B a e sz).2.1 ∧ (numE B a e sz).2.1 ≤ B.length := by
  unfold numE
  split
  · split
    · rename_i hg
      obtain ⟨h1, h2, h3, h4, h5⟩ := getE_ok hg
      exact ⟨by dsimp only; omega, h4⟩
    · exact ⟨h0, h1⟩
  · exact ⟨h0, h1⟩
theorem bytesE_at_le {B : List Int} {a e n : Int} (h0 : 0 ≤ a) (h1 : a ≤ B.length) : 0 ≤ (bytesE B a e n).2.1 ∧ (bytesE B a e n).2.1 ≤ B.length := by
  unfold bytesE
  split
  · split
    · exact ⟨h0, h1⟩
    · dsimp only; omega
  · exact ⟨h0, h1⟩
theorem getE2_pos {B : List Int} (hb : Bytes B) {a : Int} : 0 ≤ (getE B a 2).1 ∧ (getE B a 2).1 < 65536 := by
  by_cases h : (getE B a 2).2 = 0
  · obtain ⟨_, _, _, h4, h5⟩ := getE_ok h
    have hbb := getB_bound (bytes_take (bytes_drop hb a.toNat) (Int.toNat 2))
    have hl : ((B.drop a.toNat).take (Int.toNat 2)).length = 2 := by simp; omega
    rw [hl] at hbb
    rw [h5]
    have p2 : (256 : Int) ^ 2 = 65536 := by decide
    rw [p2] at hbb
    exact hbb
  · rw [getE_err h]; omega
theorem textE_at_le {B : List Int} (hb : Bytes B) {a e n : Int} (h0 : 0 ≤ a) (h1 : a ≤ B.length) : 0 ≤ (textE B a e n).2.1 ∧ (textE B a e n).2.1 ≤ B.length := by
  have := getE2_pos hb (a := a)
  unfold textE
  split
  · split
    · split
      · exact ⟨h0, h1⟩
      · split
        · exact ⟨h0, h1⟩
        · dsimp only; omega
    · exact ⟨h0, h1⟩
  · exact ⟨h0, h1⟩
theorem flagE_at_le {B : List Int} {a e : Int} (h0 : 0 ≤ a) (h1 : a ≤ B.length) : 0 ≤ (flagE B a e).2.1 ∧ (flagE B a e).2.1 ≤ B.length := by
  unfold flagE
  split
  · split
    · split
      · exact ⟨h0, h1⟩
      · dsimp only; omega
    · exact ⟨h0, h1⟩
  · exact ⟨h0, h1⟩
/-! what is read is bytes -/
theorem textE_bytes {B : List Int} (hb : Bytes B) (a e n : Int) : Bytes (textE B a e n).1 := by
  unfold textE
  split
  · split
    · split
      · exact bytes_nil
      · split
        · exact bytes_nil
        · exact bytes_take (bytes_drop hb _) _
    · exact bytes_nil
  · exact bytes_nil
theorem bytesE_bytes {B : List Int} (hb : Bytes B) (a e n : Int) : Bytes (bytesE B a e n).1 := by
  unfold bytesE
  split
  · split
    · exact bytes_nil
    · exact bytes_take (bytes_drop hb _) _
  · exact bytes_nil
theorem textE_len {B : List Int} (a e n : Int) (hn : 0 ≤ n) : ((textE B a e n).1.length : Int) ≤ n := by
  unfold textE
  split
  · split
    · split
      · simpa using hn
      · split
        · simpa using hn
        · simp only [List.length_take, List.length_drop]; omega
    · simpa using hn
  · simpa using hn
theorem numE_range {B : List Int} (hb : Bytes B) (a e sz : Int) : 0 ≤ (numE B a e sz).1 ∧ (numE B a e sz).1 < 256 ^ sz.toNat := by
  rcases h : numE B a e sz with ⟨v, a', e'⟩
  by_cases he : e' = 0
  · subst he
    have := numE_got hb h
    exact ⟨this.2.2.2.2.2.2.1, this.2.2.2.2.2.2.2.1⟩
  · have hz : v = 0 := by
      unfold numE at h
      split at h
      · split at h
        · simp only [Prod.mk.injEq] at h; exact absurd h.2.2.symm he
        · simp only [Prod.mk.injEq] at h; exact h.1.symm
      · simp only [Prod.mk.injEq] at h; exact h.1.symm
    subst hz
    exact ⟨Int.le_refl _, Int.pow_pos (by omega)⟩

section
variable (B : List Int) (hb : Bytes B) (hl : B.length ≤ 140737488351232)
include hb hl
end
theorem endE_got {B : List Int} {a e : Int} (h1 : a ≤ B.length) (h : endE B a e = 0) : e = 0 ∧ a = B.length := by
  unfold endE at h
  split at h
  · rename_i he
    split at h
    · cases h
    · exact ⟨he, by omega⟩
  · exact absurd h (by assumption)
end Go.Proofs.Ytlhjdmpclfhoeaa.RdE
