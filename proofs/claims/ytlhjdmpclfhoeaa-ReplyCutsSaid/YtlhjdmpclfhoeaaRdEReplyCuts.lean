/- What the readers of package octets and of the document read, whatever the bytes: one plain function for both, and what is known of it. -/
import Derived.Test.YtlhjdmpclfhoeaaOctReplyCuts
import Derived.Test.YtlhjdmpclfhoeaaPKx10
import Derived.Test.YtlhjdmpclfhoeaaPKx11
import Derived.Test.YtlhjdmpclfhoeaaPKx12
import Derived.Test.YtlhjdmpclfhoeaaPKx13
import Derived.Test.YtlhjdmpclfhoeaaPKx14
namespace Go.Proofs.Ytlhjdmpclfhoeaa.RdE
open Go.RowKit Go.Proofs.YtlhjdmpclfhoeaaW.PrintWords Go.Proofs.YtlhjdmpclfhoeaaW.PrintLast Go.Proofs.YtlhjdmpclfhoeaaW.PrintMore Go.Proofs.Ytlhjdmpclfhoeaa.PK Go.Proofs.Ytlhjdmpclfhoeaa.Base Go.Proofs.Ytlhjdmpclfhoeaa.Oct
def numE (B : List Int) (a e sz : Int) : Int × Int × Int :=
  if e = 0 then (if (getE B a sz).2 = 0 then ((getE B a sz).1, a + sz, 0) else (0, a, (getE B a sz).2)) else (0, a, e)
def bytesE (B : List Int) (a e n : Int) : List Int × Int × Int :=
  if e = 0 then (if n < 0 ∨ (B.length : Int) - a < n then ([], a, 3) else ((B.drop a.toNat).take n.toNat, a + n, 0)) else ([], a, e)
def textE (B : List Int) (a e most : Int) : List Int × Int × Int :=
  if e = 0 then
    (if (getE B a 2).2 = 0 then
      (if most < (getE B a 2).1 then ([], a, 5)
      else if (B.length : Int) - (a + 2) < (getE B a 2).1 then ([], a, 3)
      else ((B.drop (a + 2).toNat).take (getE B a 2).1.toNat, a + 2 + (getE B a 2).1, 0))
    else ([], a, (getE B a 2).2))
  else ([], a, e)
def flagE (B : List Int) (a e : Int) : Bool × Int × Int :=
  if e = 0 then (if a < (B.length : Int) then (if 1 < rd B a then (false, a, 4) else (rd B a == 1, a + 1, 0)) else (false, a, 3)) else (false, a, e)
def endE (B : List Int) (a e : Int) : Int := if e = 0 then (if a < (B.length : Int) then 5 else 0) else e
theorem getE_err {B : List Int} {a sz : Int} (h : (getE B a sz).2 ≠ 0) : (getE B a sz).1 = 0 := by
  unfold getE at h ⊢
  by_cases c1 : sz < 1 ∨ 8 < sz
  · rw [if_pos c1]
  · rw [if_neg c1] at h ⊢
    by_cases c2 : a < 0 ∨ (B.length : Int) < a ∨ (B.length : Int) - a < sz
    · rw [if_pos c2]
    · rw [if_neg c2] at h; exact absurd rfl h
theorem getE_ok {B : List Int} {a sz : Int} (h : (getE B a sz).2 = 0) : 1 ≤ sz ∧ sz ≤ 8 ∧ 0 ≤ a ∧ a + sz ≤ B.length ∧ getE B a sz = (getB ((B.drop a.toNat).take sz.toNat), 0) := by
  unfold getE at h ⊢
  by_cases c1 : sz < 1 ∨ 8 < sz
  · rw [if_pos c1] at h; cases h
  · rw [if_neg c1] at h ⊢
    by_cases c2 : a < 0 ∨ (B.length : Int) < a ∨ (B.length : Int) - a < sz
    · rw [if_pos c2] at h; cases h
    · rw [if_neg c2]; exact ⟨by omega, by omega, by omega, by omega, rfl⟩
theorem getE_at {B p q : List Int} {n : Int} {d : Nat} (hB : B = p ++ putB n d ++ q) (h0 : 0 ≤ n) (h1 : n < 256 ^ d) (hd1 : 1 ≤ d) (hd8 : d ≤ 8) : getE B (p.length : Int) (d : Int) = (n, 0) := by
  have hlen : B.length = p.length + d + q.length := by rw [hB]; simp [putB_length]; omega
  unfold getE
  rw [if_neg (by omega), if_neg (by omega), Int.toNat_natCast, Int.toNat_natCast, hB, List.append_assoc, List.drop_left' rfl, List.take_left' (by rw [putB_length]), getB_putB_id h0 h1]
theorem numE_at {B p q : List Int} {n : Int} {d : Nat} (hB : B = p ++ putB n d ++ q) (h0 : 0 ≤ n) (h1 : n < 256 ^ d) (hd1 : 1 ≤ d) (hd8 : d ≤ 8) (a sz : Int) (ha : a = p.length) (hs : sz = d) : numE B a 0 sz = (n, a + d, 0) := by
  subst ha; subst hs
  unfold numE
  rw [if_pos rfl, getE_at hB h0 h1 hd1 hd8, if_pos rfl]
theorem textE_at {B p t q : List Int} (hB : B = p ++ putB (t.length : Int) 2 ++ t ++ q) (ht : t.length < 65536) (most : Int) (hm : (t.length : Int) ≤ most) (a : Int) (ha : a = p.length) : textE B a 0 most = (t, a + 2 + t.length, 0) := by
  have p2 : (256 : Int) ^ 2 = 65536 := by decide
  have hlen : B.length = p.length + 2 + t.length + q.length := by rw [hB]; simp [putB_length]; omega
  have hg : getE B a 2 = ((t.length : Int), 0) := by
    rw [ha]
    exact getE_at (B := B) (p := p) (q := t ++ q) (d := 2) (by rw [hB]; simp) (by omega) (by rw [p2]; omega) (by omega) (by omega)
  unfold textE
  rw [if_pos rfl, hg, if_pos rfl, if_neg (by omega)]
  dsimp only
  rw [if_neg (by omega), Int.toNat_natCast, ha, show ((p.length : Int) + 2).toNat = (p ++ putB (t.length : Int) 2).length from by simp [putB_length]; omega, hB, List.append_assoc (p ++ _), List.drop_left' rfl, List.take_left' rfl]
theorem flagE_at {B p q : List Int} {f : Bool} (hB : B = p ++ [if f then 1 else 0] ++ q) (a : Int) (ha : a = p.length) : flagE B a 0 = (f, a + 1, 0) := by
  have hr : rd B a = if f then 1 else 0 := by
    rw [ha, hB]
    simp [rd, List.getD_eq_getElem?_getD]
  have hlen : B.length = p.length + 1 + q.length := by rw [hB]; simp; omega
  unfold flagE
  rw [if_pos rfl, if_pos (by omega), hr]
  cases f
  · rw [if_neg (by decide)]; rfl
  · rw [if_neg (by decide)]; rfl
theorem endE_at {B : List Int} {a : Int} (h : a = B.length) : endE B a 0 = 0 := by
  unfold endE
  rw [if_pos rfl, if_neg (by omega)]
theorem take_split (B : List Int) (a n : Nat) : B.take (a + n) = B.take a ++ (B.drop a).take n := by
  rw [List.take_add]
theorem numE_got {B : List Int} (hb : Bytes B) {a e sz v a' : Int} (h : numE B a e sz = (v, a', 0)) :
    e = 0 ∧ 1 ≤ sz ∧ sz ≤ 8 ∧ 0 ≤ a ∧ a' = a + sz ∧ a' ≤ B.length ∧ 0 ≤ v ∧ v < 256 ^ sz.toNat ∧ B.take a'.toNat = B.take a.toNat ++ putB v sz.toNat := by
  unfold numE at h
  by_cases he : e = 0
  · rw [if_pos he] at h
    by_cases hg : (getE B a sz).2 = 0
    · rw [if_pos hg] at h
      obtain ⟨h1, h2, h3, h4, h5⟩ := getE_ok hg
      simp only [Prod.mk.injEq] at h
      obtain ⟨rfl, rfl, _⟩ := h
      have hl : ((B.drop a.toNat).take sz.toNat).length = sz.toNat := by simp; omega
      have hbb := getB_bound (bytes_take (bytes_drop hb a.toNat) sz.toNat)
      rw [hl] at hbb
      rw [h5]
      refine ⟨he, h1, h2, h3, rfl, h4, hbb.1, hbb.2, ?_⟩
      rw [putB_getB _ _ hl (bytes_take (bytes_drop hb _) _), show (a + sz).toNat = a.toNat + sz.toNat by omega, take_split]
    · rw [if_neg hg] at h
      simp only [Prod.mk.injEq] at h
      exact absurd h.2.2 hg
  · rw [if_neg he] at h
    simp only [Prod.mk.injEq] at h
    exact absurd h.2.2 he
theorem numE_at_le {B : List Int} {a e sz : Int} (h0 : 0 ≤ a) (h1 : a ≤ B.length) : 0 ≤ (numE B a e sz).2.1 ∧ (numE B a e sz).2.1 ≤ B.length := by
  unfold numE
  split
  · split
    · rename_i hg
      obtain ⟨h1, h2, h3, h4, h5⟩ := getE_ok hg
      exact ⟨by dsimp only; omega, h4⟩
    · exact ⟨h0, h1⟩
  · exact ⟨h0, h1⟩
theorem getE2_pos {B : List Int} (hb : Bytes B) {a : Int} : 0 ≤ (getE B a 2).1 ∧ (getE B a 2).1 < 65536 := by
  by_cases h : (getE B a 2).2 = 0
  · obtain ⟨_, _, _, h4, h5⟩ := getE_ok h
    have hbb := getB_bound (bytes_take (bytes_drop hb a.toNat) (Int.toNat 2))
    have hl : ((B.drop a.toNat).take (Int.toNat 2)).length = 2 := by simp; omega
    rw [hl] at hbb
    rw [h5]
    have p2 : (256 : Int) ^ 2 = 65536 := by decide
    rw [p2] at hbb
    exact hbb
  · rw [getE_err h]; omega
theorem textE_at_le {B : List Int} (hb : Bytes B) {a e n : Int} (h0 : 0 ≤ a) (h1 : a ≤ B.length) : 0 ≤ (textE B a e n).2.1 ∧ (textE B a e n).2.1 ≤ B.length := by
  have := getE2_pos hb (a := a)
  unfold textE
  split
  · split
    · split
      · exact ⟨h0, h1⟩
      · split
        · exact ⟨h0, h1⟩
        · dsimp only; omega
    · exact ⟨h0, h1⟩
  · exact ⟨h0, h1⟩
theorem flagE_at_le {B : List Int} {a e : Int} (h0 : 0 ≤ a) (h1 : a ≤ B.length) : 0 ≤ (flagE B a e).2.1 ∧ (flagE B a e).2.1 ≤ B.length := by
  unfold flagE
  split
  · split
    · split
      · exact ⟨h0, h1⟩
      · dsimp only; omega
    · exact ⟨h0, h1⟩
  · exact ⟨h0, h1⟩
theorem numE_range {B : List Int} (hb : Bytes B) (a e sz : Int) : 0 ≤ (numE B a e sz).1 ∧ (numE B a e sz).1 < 256 ^ sz.toNat := by
  rcases h : numE B a e sz with ⟨v, a', e'⟩
  by_cases he : e' = 0
  · subst he
    have := numE_got hb h
    exact ⟨this.2.2.2.2.2.2.1, this.2.2.2.2.2.2.2.1⟩
  · have hz : v = 0 := by
      unfold numE at h
      split at h
      · split at h
        · simp only [Prod.mk.injEq] at h; exact absurd h.2.2.symm he
        · simp only [Prod.mk.injEq] at h; exact h.1.symm
      · simp only [Prod.mk.injEq] at h; exact h.1.symm
    subst hz
    exact ⟨Int.le_refl _, Int.pow_pos (by omega)⟩
section
variable (B : List Int) (hb : Bytes B) (hl : B.length ≤ 140737488351232)
include hb hl
theorem Num_ev (a e sz : Int) (h0 : 0 ≤ a) (h1 : a ≤ B.length) (hs : -9223372036854775808 ≤ sz ∧ sz ≤ 9223372036854775807) : Ev (fun k => octets_Reader_Num.f k B a e sz) (numE B a e sz) := by
  unfold octets_Reader_Num.f numE
  have e0 : octets_Reader_over.f B a e = some (e != 0, a, e) := rfl
  refine Ev.bind0 e0 ?_
  dsimp only
  by_cases he : e = 0
  · rw [if_pos he]; subst he
    refine Ev.iteF (by simp) (Ev.bind (Get_ev B a sz hb (by omega) (by omega) (by omega) hs.1 hs.2) ?_)
    by_cases hg : (getE B a sz).2 = 0
    · obtain ⟨g1, g2, g3, g4, g5⟩ := getE_ok hg
      refine Ev.iteT hg (Ev.eq (Ev.now _) ?_)
      rw [if_pos hg, hg, wrap64_id (by omega) (by omega)]
    · refine Ev.iteF hg (Ev.eq (Ev.now _) ?_)
      rw [if_neg hg, getE_err hg]
  · rw [if_neg he]
    exact Ev.iteT (by simp [he]) (Ev.now _)
theorem Bytes_eq (a e n : Int) (h0 : 0 ≤ a) (h1 : a ≤ B.length) (hs : -9223372036854775808 ≤ n ∧ n ≤ 9223372036854775807) : octets_Reader_Bytes.f B a e n = some (bytesE B a e n) := by
  have _ := hb
  unfold octets_Reader_Bytes.f bytesE
  have e0 : octets_Reader_over.f B a e = some (e != 0, a, e) := rfl
  simp only [e0, Option.bind_some]
  by_cases he : e = 0
  · subst he
    rw [if_pos rfl, if_neg (by simp)]
    by_cases c1 : n < 0
    · rw [if_pos c1, if_pos (Or.inl c1)]
    rw [if_neg c1]
    have w1 : wrap64 ((B.length : Int) - a) = (B.length : Int) - a := wrap64_id (by omega) (by omega)
    rw [w1]
    by_cases c2 : n > (B.length : Int) - a
    · rw [if_pos c2, if_pos (Or.inr (by omega))]
    rw [if_neg c2, if_neg (show ¬ (n < 0 ∨ (B.length : Int) - a < n) by omega)]
    have w2 : wrap64 (a + n) = a + n := wrap64_id (by omega) (by omega)
    have w3 : wrap64 (a + n - n) = a := by rw [wrap64_id (by omega) (by omega)]; omega
    have e2 : (B.take (a + n).toNat).drop a.toNat = (B.drop a.toNat).take n.toNat := by
      rw [show (a + n).toNat = a.toNat + n.toNat by omega, List.drop_take]; congr 1; omega
    rw [w2, w3, if_pos h0, if_pos (by omega), if_pos (by omega), e2, if_pos (by simp; omega)]
    simp
  · rw [if_neg he, if_pos (by simp [he])]
theorem Text_ev (a e n : Int) (h0 : 0 ≤ a) (h1 : a ≤ B.length) : Ev (fun k => octets_Reader_Text.f k B a e n) (textE B a e n) := by
  have p2 : (256 : Int) ^ (Int.toNat 2) = 65536 := by decide
  unfold octets_Reader_Text.f
  have e0 : octets_Reader_over.f B a e = some (e != 0, a, e) := rfl
  refine Ev.bind0 e0 ?_
  dsimp only
  by_cases he : e = 0
  · subst he
    refine Ev.iteF (by simp) (Ev.bind (Num_ev B hb hl a 0 2 h0 h1 (by omega)) ?_)
    have hn := numE_at_le (B := B) (e := 0) (sz := 2) h0 h1
    have hr := getE2_pos hb (a := a)
    have w0 : wrap64 (getE B a 2).1 = (getE B a 2).1 := wrap64_id (by omega) (by omega)
    unfold textE numE
    simp only [if_true]
    by_cases hg : (getE B a 2).2 = 0
    · obtain ⟨g1, g2, g3, g4, g5⟩ := getE_ok hg
      simp only [hg, if_true, w0]
      refine Ev.step (fun k => by rw [octets_Reader_Text.j0]) ?_
      by_cases c1 : n < (getE B a 2).1
      · rw [if_pos c1]
        refine Ev.iteT (by simpa using c1) (Ev.bind0 (Bytes_eq B hb hl _ _ _ (by omega) (by omega) (by omega)) ?_)
        refine Ev.iteF (by simp [bytesE]) (Ev.eq (Ev.now _) ?_)
        simp [bytesE]
      · rw [if_neg c1]
        refine Ev.iteF (by simpa using c1) (Ev.bind0 (Bytes_eq B hb hl _ _ _ (by omega) (by omega) (by omega)) ?_)
        unfold bytesE
        rw [if_pos rfl]
        by_cases c2 : (B.length : Int) - (a + 2) < (getE B a 2).1
        · rw [if_pos (Or.inr c2), if_pos c2]
          exact Ev.iteF (by simp) (Ev.now _)
        · rw [if_neg (show ¬ ((getE B a 2).1 < 0 ∨ (B.length : Int) - (a + 2) < (getE B a 2).1) by omega), if_neg c2]
          exact Ev.iteT rfl (Ev.now _)
    · simp only [hg, if_false]
      refine Ev.step (fun k => by rw [octets_Reader_Text.j0]) ?_
      refine Ev.iteF (by decide) (Ev.bind0 (Bytes_eq B hb hl _ _ _ h0 h1 (by rw [wrap64_id (by omega) (by omega)]; omega)) ?_)
      unfold bytesE
      rw [if_neg hg]
      exact Ev.iteF hg (Ev.now _)
  · unfold textE
    rw [if_neg he]
    exact Ev.iteT (by simp [he]) (Ev.now _)
theorem Flag_ev (a e : Int) (h0 : 0 ≤ a) (h1 : a ≤ B.length) : Ev (fun k => octets_Reader_Flag.f k B a e) (flagE B a e) := by
  unfold octets_Reader_Flag.f
  have e0 : octets_Reader_over.f B a e = some (e != 0, a, e) := rfl
  refine Ev.bind0 e0 ?_
  dsimp only
  unfold flagE
  by_cases he : e = 0
  · subst he
    refine Ev.iteF (by simp) (Ev.bind (Num_ev B hb hl a 0 1 h0 h1 (by omega)) ?_)
    unfold numE
    simp only [if_true]
    by_cases c : a < (B.length : Int)
    · have hg : getE B a 1 = (rd B a, 0) := by
        unfold getE
        rw [if_neg (by omega), if_neg (by omega)]
        have hd : B.drop a.toNat = rd B a :: B.drop (a.toNat + 1) := by
          have := rd_drop (l := B) (i := a.toNat) (by omega)
          rwa [Int.toNat_of_nonneg h0] at this
        rw [hd]
        simp [getB, getA]
      simp only [hg, if_true, if_pos c]
      by_cases c1 : 1 < rd B a
      · refine Ev.eq ?_ (if_pos c1).symm
        refine Ev.iteT c1 (Ev.iteF (by omega) ?_)
        have w : wrap64 (a + 1 - 1) = a := by rw [wrap64_id (by omega) (by omega)]; omega
        rw [w]
        exact Ev.now _
      · refine Ev.eq ?_ (if_neg c1).symm
        refine Ev.iteF c1 ?_
        by_cases c2 : rd B a = 1
        · refine Ev.iteT c2 (Ev.eq (Ev.now _) ?_)
          simp [c2]
        · refine Ev.iteF c2 (Ev.eq (Ev.now _) ?_)
          simp [c2]
    · have hg : getE B a 1 = (0, 3) := by
        unfold getE
        rw [if_neg (by omega), if_pos (by omega)]
      simp only [hg, if_neg c]
      refine Ev.iteF (by first | decide | simp) (Ev.iteF (by first | decide | simp) ?_)
      exact Ev.now _
  · rw [if_neg he]
    exact Ev.iteT (by simp [he]) (Ev.now _)
end
theorem End_eq (B : List Int) (a e : Int) : octets_Reader_End.f B a e = some (endE B a e, a, e) := by
  unfold octets_Reader_End.f endE
  split
  · split <;> rfl
  · rfl
theorem New_eq (l : List Int) (h : l.length < 140737488355328) : octets_NewReader.f l = some (l, 0, 0) := by
  unfold octets_NewReader.f
  rw [if_pos h]
theorem endE_got {B : List Int} {a e : Int} (h1 : a ≤ B.length) (h : endE B a e = 0) : e = 0 ∧ a = B.length := by
  unfold endE at h
  split at h
  · rename_i he
    split at h
    · cases h
    · exact ⟨he, by omega⟩
  · exact absurd h (by assumption)
end Go.Proofs.Ytlhjdmpclfhoeaa.RdE
