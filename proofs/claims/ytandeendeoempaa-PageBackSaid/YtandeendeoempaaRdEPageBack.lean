/- What the readers of package octets and of the document read, whatever the bytes: one plain function for both, and what is known of it. -/
import Derived.Test.YtandeendeoempaaOctPageBack
import Derived.Test.YtandeendeoempaaPMx11
import Derived.Test.YtandeendeoempaaPMx12
namespace Go.Proofs.Ytandeendeoempaa.RdE
open Go.RowKit Go.Proofs.YtandeendeoempaaW.PrintWords Go.Proofs.YtandeendeoempaaW.PrintLast Go.Proofs.YtandeendeoempaaW.PrintMore Go.Proofs.Ytandeendeoempaa.PM Go.Proofs.Ytandeendeoempaa.Base Go.Proofs.Ytandeendeoempaa.Oct
def numE (B : List Int) (a e sz : Int) : Int × Int × Int :=
  if e = 0 then (if (getE B a sz).2 = 0 then ((getE B a sz).1, a + sz, 0) else (0, a, (getE B a sz).2)) else (0, a, e)
def bytesE (B : List Int) (a e n : Int) : List Int × Int × Int :=
  if e = 0 then (if n < 0 ∨ (B.length : Int) - a < n then ([], a, 3) else ((B.drop a.toNat).take n.toNat, a + n, 0)) else ([], a, e)
theorem getE_err {B : List Int} {a sz : Int} (h : (getE B a sz).2 ≠ 0) : (getE B a sz).1 = 0 := by
  unfold getE at h ⊢
  by_cases c1 : sz < 1 ∨ 8 < sz
  · rw [if_pos c1]
  · rw [if_neg c1] at h ⊢
    by_cases c2 : a < 0 ∨ (B.length : Int) < a ∨ (B.length : Int) - a < sz
    · rw [if_pos c2]
    · rw [if_neg c2] at h; exact absurd rfl h
theorem getE_ok {B : List Int} {a sz : Int} (h : (getE B a sz).2 = 0) : 1 ≤ sz ∧ sz ≤ 8 ∧ 0 ≤ a ∧ a + sz ≤ B.length ∧ getE B a sz = (getB ((B.drop a.toNat).take sz.toNat), 0) := by
  unfold getE at h ⊢
  by_cases c1 : sz < 1 ∨ 8 < sz
  · rw [if_pos c1] at h; cases h
  · rw [if_neg c1] at h ⊢
    by_cases c2 : a < 0 ∨ (B.length : Int) < a ∨ (B.length : Int) - a < sz
    · rw [if_pos c2] at h; cases h
    · rw [if_neg c2]; exact ⟨by omega, by omega, by omega, by omega, rfl⟩
theorem getE_at {B p q : List Int} {n : Int} {d : Nat} (hB : B = p ++ putB n d ++ q) (h0 : 0 ≤ n) (h1 : n < 256 ^ d) (hd1 : 1 ≤ d) (hd8 : d ≤ 8) : getE B (p.length : Int) (d : Int) = (n, 0) := by
  have hlen : B.length = p.length + d + q.length := by rw [hB]; simp [putB_length]; omega
  unfold getE
  rw [if_neg (by omega), if_neg (by omega), Int.toNat_natCast, Int.toNat_natCast, hB, List.append_assoc, List.drop_left' rfl, List.take_left' (by rw [putB_length]), getB_putB_id h0 h1]
theorem numE_at {B p q : List Int} {n : Int} {d : Nat} (hB : B = p ++ putB n d ++ q) (h0 : 0 ≤ n) (h1 : n < 256 ^ d) (hd1 : 1 ≤ d) (hd8 : d ≤ 8) (a sz : Int) (ha : a = p.length) (hs : sz = d) : numE B a 0 sz = (n, a + d, 0) := by
  subst ha; subst hs
  unfold numE
  rw [if_pos rfl, getE_at hB h0 h1 hd1 hd8, if_pos rfl]
theorem bytesE_at {B p t q : List Int} (hB : B = p ++ t ++ q) (a n : Int) (ha : a = p.length) (hn : n = t.length) : bytesE B a 0 n = (t, a + t.length, 0) := by
  subst ha; subst hn
  have hlen : B.length = p.length + t.length + q.length := by rw [hB]; simp; omega
  unfold bytesE
  rw [if_pos rfl, if_neg (by omega), Int.toNat_natCast, Int.toNat_natCast, hB, List.append_assoc, List.drop_left' rfl, List.take_left' rfl]
section
variable (B : List Int) (hb : Bytes B) (hl : B.length ≤ 140737488351232)
include hb hl
theorem Num_ev (a e sz : Int) (h0 : 0 ≤ a) (h1 : a ≤ B.length) (hs : -9223372036854775808 ≤ sz ∧ sz ≤ 9223372036854775807) : Ev (fun k => octets_Reader_Num.f k B a e sz) (numE B a e sz) := by
  unfold octets_Reader_Num.f numE
  have e0 : octets_Reader_over.f B a e = some (e != 0, a, e) := rfl
  refine Ev.bind0 e0 ?_
  dsimp only
  by_cases he : e = 0
  · rw [if_pos he]; subst he
    refine Ev.iteF (by simp) (Ev.bind (Get_ev B a sz hb (by omega) (by omega) (by omega) hs.1 hs.2) ?_)
    by_cases hg : (getE B a sz).2 = 0
    · obtain ⟨g1, g2, g3, g4, g5⟩ := getE_ok hg
      refine Ev.iteT hg (Ev.eq (Ev.now _) ?_)
      rw [if_pos hg, hg, wrap64_id (by omega) (by omega)]
    · refine Ev.iteF hg (Ev.eq (Ev.now _) ?_)
      rw [if_neg hg, getE_err hg]
  · rw [if_neg he]
    exact Ev.iteT (by simp [he]) (Ev.now _)
theorem Bytes_eq (a e n : Int) (h0 : 0 ≤ a) (h1 : a ≤ B.length) (hs : -9223372036854775808 ≤ n ∧ n ≤ 9223372036854775807) : octets_Reader_Bytes.f B a e n = some (bytesE B a e n) := by
  have _ := hb
  unfold octets_Reader_Bytes.f bytesE
  have e0 : octets_Reader_over.f B a e = some (e != 0, a, e) := rfl
  simp only [e0, Option.bind_some]
  by_cases he : e = 0
  · subst he
    rw [if_pos rfl, if_neg (by simp)]
    by_cases c1 : n < 0
    · rw [if_pos c1, if_pos (Or.inl c1)]
    rw [if_neg c1]
    have w1 : wrap64 ((B.length : Int) - a) = (B.length : Int) - a := wrap64_id (by omega) (by omega)
    rw [w1]
    by_cases c2 : n > (B.length : Int) - a
    · rw [if_pos c2, if_pos (Or.inr (by omega))]
    rw [if_neg c2, if_neg (show ¬ (n < 0 ∨ (B.length : Int) - a < n) by omega)]
    have w2 : wrap64 (a + n) = a + n := wrap64_id (by omega) (by omega)
    have w3 : wrap64 (a + n - n) = a := by rw [wrap64_id (by omega) (by omega)]; omega
    have e2 : (B.take (a + n).toNat).drop a.toNat = (B.drop a.toNat).take n.toNat := by
      rw [show (a + n).toNat = a.toNat + n.toNat by omega, List.drop_take]; congr 1; omega
    rw [w2, w3, if_pos h0, if_pos (by omega), if_pos (by omega), e2, if_pos (by simp; omega)]
    simp
  · rw [if_neg he, if_pos (by simp [he])]
end
theorem New_eq (l : List Int) (h : l.length < 140737488355328) : octets_NewReader.f l = some (l, 0, 0) := by
  unfold octets_NewReader.f
  rw [if_pos h]
end Go.Proofs.Ytandeendeoempaa.RdE
