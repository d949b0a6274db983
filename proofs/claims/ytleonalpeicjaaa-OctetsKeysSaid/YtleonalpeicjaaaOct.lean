/- What octets.Put, octets.Get and the document's Put, Fits, Get, Twin, Same come to, as plain functions. -/
import Derived.Test.YtleonalpeicjaaaBase
import Derived.Test.YtleonalpeicjaaaPSx1
import Derived.Test.YtleonalpeicjaaaPSx10
import Derived.Test.YtleonalpeicjaaaPSx11
import Derived.Test.YtleonalpeicjaaaPSx12
import Derived.Test.YtleonalpeicjaaaPSx14
import Derived.Test.YtleonalpeicjaaaPSx15
import Derived.Test.YtleonalpeicjaaaPSx16
import Derived.Test.YtleonalpeicjaaaPSx19
import Derived.Test.YtleonalpeicjaaaPSx2
import Derived.Test.YtleonalpeicjaaaPSx20
import Derived.Test.YtleonalpeicjaaaPSx21
import Derived.Test.YtleonalpeicjaaaPSx22
import Derived.Test.YtleonalpeicjaaaPSx23
import Derived.Test.YtleonalpeicjaaaPSx24
import Derived.Test.YtleonalpeicjaaaPSx25
import Derived.Test.YtleonalpeicjaaaPSx4
import Derived.Test.YtleonalpeicjaaaPSx5
import Derived.Test.YtleonalpeicjaaaPSx6
import Derived.Test.YtleonalpeicjaaaPSx7
namespace Go.Proofs.Ytleonalpeicjaaa.Oct
open Go.RowKit Go.Proofs.YtleonalpeicjaaaW.PrintWords Go.Proofs.YtleonalpeicjaaaW.PrintMore Go.Proofs.Ytleonalpeicjaaa.PS Go.Proofs.Ytleonalpeicjaaa.Base

/-- What Put answers. -/
def putE (n size : Int) : List Int × Int :=
  if size < 1 ∨ 8 < size then ([], 1) else if n / 256 ^ size.toNat ≠ 0 then ([], 2) else (putB n size.toNat, 0)

theorem Put_loop (n size : Int) (hs : size ≤ 8) : ∀ (d : Nat) (i : Nat) (xs : List Int), (i : Int) + d = size → xs.length = d + i →
    Ev (fun k => octets_Put.l0 k n size xs size i) (putB (n / 256 ^ i) d ++ xs.drop d, 0)
  | 0, i, xs, hi, hx => by
    refine Ev.step (fun k => by rw [octets_Put.l0]) ?_
    refine Ev.iteF (by omega) ?_
    simpa [putB] using Ev.now _
  | d + 1, i, xs, hi, hx => by
    refine Ev.step (fun k => by rw [octets_Put.l0]) ?_
    have e1 : wrap64 (size - 1) = size - 1 := wrap64_id (by omega) (by omega)
    have e2 : wrap64 (size - 1 - i) = d := by rw [wrap64_id (by omega) (by omega)]; omega
    have e3 : wrap64 ((i : Int) + 1) = ((i + 1 : Nat) : Int) := by rw [wrap64_id (by omega) (by omega)]; omega
    have e4 : wrap64 (8 * (i : Int)) = 8 * (i : Int) := wrap64_id (by omega) (by omega)
    rw [e1, e2, e3, e4]
    refine Ev.iteT (by omega) (Ev.iteT (by omega) (Ev.iteT (by omega) (Ev.iteT (by omega) ?_)))
    have := Put_loop n size hs d (i + 1) (xs.set d (n / 256 ^ i % 256)) (by omega) (by simp; omega)
    rw [shr_bytes n i (by omega), Int.toNat_natCast]
    refine Ev.eq this ?_
    rw [putB, div_pow_succ, List.drop_set, if_neg (by omega), Nat.sub_self]
    have hl : d < xs.length := by omega
    rw [List.drop_eq_getElem_cons hl, List.set_cons_zero]
    simp

theorem Put_ev (n size : Int) (h0 : 0 ≤ n) (h1 : n < 18446744073709551616) (hs0 : -9223372036854775808 ≤ size) (hs1 : size ≤ 9223372036854775807) :
    Ev (fun k => octets_Put.f k n size) (putE n size) := by
  unfold octets_Put.f putE
  by_cases c1 : size < 1
  · rw [if_pos (Or.inl c1)]
    refine Ev.iteT c1 (Ev.step (fun k => by rw [octets_Put.j0]) ?_)
    exact Ev.iteT rfl (Ev.now _)
  by_cases c2 : 8 < size
  · rw [if_pos (Or.inr c2)]
    refine Ev.iteF c1 (Ev.step (fun k => by rw [octets_Put.j0]) ?_)
    exact Ev.iteT (by simpa using c2) (Ev.now _)
  rw [if_neg (by omega)]
  refine Ev.iteF c1 (Ev.step (fun k => by rw [octets_Put.j0]) ?_)
  refine Ev.iteF (by simpa using c2) ?_
  obtain ⟨s, rfl⟩ : ∃ s : Nat, size = s := ⟨size.toNat, by omega⟩
  have e8 : wrap64 (8 * (s : Int)) = 8 * (s : Int) := wrap64_id (by omega) (by omega)
  have tail : ∀ b : Bool, Ev (fun k => octets_Put.j1 k n s b) (if b = true then ([], 2) else (putB n s, 0)) := by
    intro b
    refine Ev.step (fun k => by rw [octets_Put.j1]) ?_
    by_cases hb : b = true
    · rw [if_pos hb]; exact Ev.iteT hb (Ev.now _)
    · rw [if_neg hb]
      refine Ev.iteF hb (Ev.iteT (by omega) (Ev.iteT (by rw [Int.toNat_natCast]; omega) ?_))
      have := Put_loop n s (by omega) s 0 (List.replicate s 0) (by omega) (by simp)
      rw [Int.toNat_natCast]
      refine Ev.eq this ?_
      simp
  by_cases c3 : (s : Int) < 8
  · refine Ev.iteT c3 (Ev.iteT (by omega) ?_)
    rw [e8, shr_bytes n s (by omega)]
    refine Ev.eq (tail _) ?_
    rw [Int.toNat_natCast]
    by_cases z : n / 256 ^ s = 0 <;> simp [z]
  · refine Ev.iteF c3 (Ev.eq (tail _) ?_)
    have : s = 8 := by omega
    subst this
    have z : n / 256 ^ (Int.toNat ((8 : Nat) : Int)) = 0 := by rw [Int.toNat_natCast, pow256_8]; omega
    rw [if_neg (by simp), if_neg (by rw [z]; simp), Int.toNat_natCast]

theorem refFits_loop (size : Int) (hs : size ≤ 9223372036854775807) : ∀ (d : Nat) (i : Nat) (n : Int), (i : Int) + d = size → 0 ≤ n → n < 18446744073709551616 →
    Ev (fun k => terrierref01_Fits.l0 k n size i) (n / 256 ^ d == 0)
  | 0, i, n, hi, _, _ => by
    refine Ev.step (fun k => by rw [terrierref01_Fits.l0]) ?_
    refine Ev.iteF (by omega) ?_
    simpa using Ev.now _
  | d + 1, i, n, hi, h0, h1 => by
    refine Ev.step (fun k => by rw [terrierref01_Fits.l0]) ?_
    refine Ev.iteT (by omega) ?_
    have e3 : wrap64 ((i : Int) + 1) = ((i + 1 : Nat) : Int) := by rw [wrap64_id (by omega) (by omega)]; omega
    rw [Int.tdiv_eq_ediv_of_nonneg h0, wrap_u64_id (by omega) (by omega), e3]
    refine Ev.eq (refFits_loop size hs d (i + 1) (n / 256) (by omega) (by omega) (by omega)) ?_
    rw [Int.pow_succ, Int.mul_comm, Int.ediv_ediv_of_nonneg (by omega)]
theorem refFits_ev (n size : Int) (h0 : 0 ≤ n) (h1 : n < 18446744073709551616) (hs0 : 0 ≤ size) (hs1 : size ≤ 9223372036854775807) :
    Ev (fun k => terrierref01_Fits.f k n size) (n / 256 ^ size.toNat == 0) :=
  refFits_loop size hs1 size.toNat 0 n (by omega) h0 h1

theorem refPut_loop (size : Int) (hs : size ≤ 9223372036854775807) (ht : size ≤ 1000000) : ∀ (d : Nat) (i : Nat) (n : Int) (xs : List Int), (i : Int) + d = size → xs.length = i → 0 ≤ n → n < 18446744073709551616 →
    Ev (fun k => terrierref01_Put.l0 k n size xs i) (putB n d ++ xs)
  | 0, i, n, xs, hi, _, _, _ => by
    refine Ev.step (fun k => by rw [terrierref01_Put.l0]) ?_
    refine Ev.iteF (by omega) ?_
    simpa [putB] using Ev.now _
  | d + 1, i, n, xs, hi, hx, h0, h1 => by
    refine Ev.step (fun k => by rw [terrierref01_Put.l0]) ?_
    refine Ev.iteT (by omega) (Ev.bind0 rfl (Ev.iteT (by simp; omega) ?_))
    have e3 : wrap64 ((i : Int) + 1) = ((i + 1 : Nat) : Int) := by rw [wrap64_id (by omega) (by omega)]; omega
    rw [Int.tdiv_eq_ediv_of_nonneg h0, wrap_u64_id (by omega) (by omega), e3, Int.tmod_eq_emod_of_nonneg h0]
    refine Ev.eq (refPut_loop size hs ht d (i + 1) (n / 256) _ (by omega) (by simp; omega) (by omega) (by omega)) ?_
    rw [putB]; simp
theorem refPut_ev (n size : Int) (h0 : 0 ≤ n) (h1 : n < 18446744073709551616) (hs0 : 0 ≤ size) (hs1 : size ≤ 8) :
    Ev (fun k => terrierref01_Put.f k n size) (putB n size.toNat) := by
  have := refPut_loop size (by omega) (by omega) size.toNat 0 n [] (by omega) rfl h0 h1
  simpa [terrierref01_Put.f] using this
theorem Same_eq {l m : List Int} (hl : Bytes l) (hm : Bytes m) : terrierref01_Same.f l m = some (decide (l = m)) := by
  unfold terrierref01_Same.f; rw [same_bytes hl hm]
theorem Same_self (l : List Int) : terrierref01_Same.f l l = some true := by
  unfold terrierref01_Same.f; rw [same_self]
theorem Equal_eq {l m : List Int} (hl : Bytes l) (hm : Bytes m) : bytes_Equal.f l m = some (decide (l = m)) := by
  unfold bytes_Equal.f; rw [same_bytes hl hm]
theorem Twin_eq {l : List Int} (h : l.length < 140737488355328) : terrierref01_Twin.f l = some l := by
  simp [terrierref01_Twin.f, h]
theorem Clone_eq {l : List Int} (h : l.length < 140737488355328) : bytes_Clone.f l = some l := by
  simp [bytes_Clone.f, h]
/-- What Get answers. -/
def getE (l : List Int) (i size : Int) : Int × Int :=
  if size < 1 ∨ 8 < size then (0, 1) else if i < 0 ∨ (l.length : Int) < i ∨ (l.length : Int) - i < size then (0, 3) else (getB ((l.drop i.toNat).take size.toNat), 0)
theorem getA_step {a x : Int} {n d : Nat} (h0 : 0 ≤ a) (ha : a < 256 ^ n) (hx : 0 ≤ x ∧ x < 256) (hd : n + (d + 1) ≤ 8) : a * 256 < 18446744073709551616 ∧ 0 ≤ a * 256 + x ∧ a * 256 + x < 256 ^ (n + 1) := by
  have h1 := pow256_le (d := n + 1) (by omega)
  rw [Int.pow_succ] at h1 ⊢
  omega
theorem Get_loop (ys : List Int) (hy : Bytes ys) (hl : ys.length ≤ 8) : ∀ (d : Nat) (i : Nat) (a : Int), i + d = ys.length → 0 ≤ a → a < 256 ^ i →
    Ev (fun k => octets_Get.l0 k a ys (ys.length : Int) i) (getA a (ys.drop i), 0)
  | 0, i, a, hi, _, _ => by
    refine Ev.step (fun k => by rw [octets_Get.l0]) ?_
    refine Ev.iteF (by omega) ?_
    rw [List.drop_of_length_le (by omega)]
    exact Ev.now _
  | d + 1, i, a, hi, h0, h1 => by
    refine Ev.step (fun k => by rw [octets_Get.l0]) ?_
    refine Ev.iteT (by omega) (Ev.iteT (by omega) (Ev.iteT (by omega) ?_))
    have hx := rd_byte hy (i : Int)
    obtain ⟨b1, b2, b3⟩ := getA_step (d := d) h0 h1 hx (by omega)
    rw [wrap_u64_id (by omega) (by omega), wrap_u64_id (by omega) (by omega), or_byte h0 (by omega) hx.1 hx.2, wrapInc (by omega)]
    refine Ev.eq (Get_loop ys hy hl d (i + 1) _ (by omega) b2 b3) ?_
    rw [rd_drop (by omega : i < ys.length)]; rfl
theorem Get_ev (l : List Int) (i size : Int) (hb : Bytes l) (hl : (l.length : Int) ≤ 9223372036854775800) (hi0 : -9223372036854775808 ≤ i) (hi1 : i ≤ 9223372036854775807) (hs0 : -9223372036854775808 ≤ size) (hs1 : size ≤ 9223372036854775807) :
    Ev (fun k => octets_Get.f k l i size) (getE l i size) := by
  unfold octets_Get.f getE
  by_cases c1 : size < 1
  · rw [if_pos (Or.inl c1)]
    refine Ev.iteT c1 (Ev.step (fun k => by rw [octets_Get.j0]) ?_)
    exact Ev.iteT rfl (Ev.now _)
  by_cases c2 : 8 < size
  · rw [if_pos (Or.inr c2)]
    refine Ev.iteF c1 (Ev.step (fun k => by rw [octets_Get.j0]) ?_)
    exact Ev.iteT (by simpa using c2) (Ev.now _)
  rw [if_neg (by omega)]
  refine Ev.iteF c1 (Ev.step (fun k => by rw [octets_Get.j0]) ?_)
  refine Ev.iteF (by simpa using c2) ?_
  have bad : Ev (fun k => octets_Get.j1 k l i size true) (0, 3) := by
    refine Ev.step (fun k => by rw [octets_Get.j1]) ?_
    exact Ev.iteT rfl (Ev.now _)
  by_cases c3 : i < 0
  · rw [if_pos (Or.inl c3)]; exact Ev.iteT c3 bad
  refine Ev.iteF c3 ?_
  by_cases c4 : i > (l.length : Int)
  · rw [if_pos (Or.inr (Or.inl (by omega)))]; exact Ev.iteT c4 bad
  refine Ev.iteF c4 ?_
  rw [wrap64_id (by omega) (by omega)]
  by_cases c5 : size > (l.length : Int) - i
  · rw [if_pos (Or.inr (Or.inr (by omega))), decide_eq_true c5]; exact bad
  rw [if_neg (by omega), decide_eq_false c5]
  refine Ev.step (fun k => by rw [octets_Get.j1]) ?_
  have e : wrap64 (i + size) = i + size := wrap64_id (by omega) (by omega)
  rw [e]
  refine Ev.iteF (by simp) (Ev.iteT (by omega) (Ev.iteT (by omega) (Ev.iteT (by omega) (Ev.bind0 rfl ?_))))
  obtain ⟨a, rfl⟩ : ∃ a : Nat, i = a := ⟨i.toNat, by omega⟩
  obtain ⟨s, rfl⟩ : ∃ s : Nat, size = s := ⟨size.toNat, by omega⟩
  have e2 : ((a : Int) + s).toNat = a + s := by omega
  have e3 : (l.take (a + s)).drop a = (l.drop a).take s := by rw [List.drop_take]; congr 1; omega
  rw [e2, Int.toNat_natCast, Int.toNat_natCast, e3]
  have hlen : ((l.drop a).take s).length = s := by simp; omega
  refine Ev.eq (Get_loop _ (bytes_take (bytes_drop hb a) s) (by omega) s 0 0 (by omega) (by omega) (by simp)) ?_
  rw [List.drop_zero]; rfl
theorem refGet_loop (l : List Int) (hb : Bytes l) (hl : (l.length : Int) ≤ 9223372036854775800) (a : Nat) (s : Nat) (hs : s ≤ 8) (has : a + s ≤ l.length) : ∀ (d : Nat) (i : Nat) (n : Int), i + d = s → 0 ≤ n → n < 256 ^ i →
    Ev (fun k => terrierref01_Get.l0 k l a s n i) (getA n (((l.drop a).take s).drop i), 0)
  | 0, i, n, hi, _, _ => by
    refine Ev.step (fun k => by rw [terrierref01_Get.l0]) ?_
    refine Ev.iteF (by omega) ?_
    rw [List.drop_of_length_le (by simp; omega)]
    exact Ev.now _
  | d + 1, i, n, hi, h0, h1 => by
    refine Ev.step (fun k => by rw [terrierref01_Get.l0]) ?_
    have e : wrap64 ((a : Int) + i) = ((a + i : Nat) : Int) := by rw [wrap64_id (by omega) (by omega)]; omega
    rw [e, wrapInc (by omega)]
    refine Ev.iteT (by omega) (Ev.iteT (by omega) (Ev.iteT (by omega) ?_))
    have hx := rd_byte hb ((a + i : Nat) : Int)
    obtain ⟨b1, b2, b3⟩ := getA_step (d := d) h0 h1 hx (by omega)
    have b4 := pow256_le (d := i + 1) (by omega)
    rw [Int.mul_comm 256 n, wrap_u64_id (by omega : 0 ≤ n * 256) (by omega), wrap_u64_id hx.1 (by omega), wrap_u64_id b2 (by omega)]
    refine Ev.eq (refGet_loop l hb hl a s hs has d (i + 1) _ (by omega) b2 b3) ?_
    have hlen : ((l.drop a).take s).length = s := by simp; omega
    rw [rd_drop (by omega : i < ((l.drop a).take s).length), rd_take (by omega : i < s), rd_add]; rfl
theorem refGet_ev (l : List Int) (i size : Int) (hb : Bytes l) (hl : (l.length : Int) ≤ 9223372036854775800) (hi0 : -9223372036854775808 ≤ i) (hi1 : i ≤ 9223372036854775807) (hs0 : -9223372036854775808 ≤ size) (hs1 : size ≤ 9223372036854775807) :
    Ev (fun k => terrierref01_Get.f k l i size) (getE l i size) := by
  unfold terrierref01_Get.f getE
  by_cases c1 : size < 1
  · rw [if_pos (Or.inl c1)]
    refine Ev.iteT c1 (Ev.step (fun k => by rw [terrierref01_Get.j0]) ?_)
    exact Ev.iteT rfl (Ev.now _)
  by_cases c2 : 8 < size
  · rw [if_pos (Or.inr c2)]
    refine Ev.iteF c1 (Ev.step (fun k => by rw [terrierref01_Get.j0]) ?_)
    exact Ev.iteT (by simpa using c2) (Ev.now _)
  rw [if_neg (by omega)]
  refine Ev.iteF c1 (Ev.step (fun k => by rw [terrierref01_Get.j0]) ?_)
  refine Ev.iteF (by simpa using c2) ?_
  have bad : Ev (fun k => terrierref01_Get.j1 k l i size true) (0, 3) := by
    refine Ev.step (fun k => by rw [terrierref01_Get.j1]) ?_
    exact Ev.iteT rfl (Ev.now _)
  by_cases c3 : i < 0
  · rw [if_pos (Or.inl c3)]; exact Ev.iteT c3 bad
  refine Ev.iteF c3 ?_
  by_cases c4 : i > (l.length : Int)
  · rw [if_pos (Or.inr (Or.inl (by omega)))]; exact Ev.iteT c4 bad
  refine Ev.iteF c4 ?_
  rw [wrap64_id (by omega) (by omega)]
  by_cases c5 : (l.length : Int) - i < size
  · rw [if_pos (Or.inr (Or.inr c5)), decide_eq_true c5]; exact bad
  rw [if_neg (by omega), decide_eq_false c5]
  refine Ev.step (fun k => by rw [terrierref01_Get.j1]) ?_
  refine Ev.iteF (by simp) ?_
  obtain ⟨a, rfl⟩ : ∃ a : Nat, i = a := ⟨i.toNat, by omega⟩
  obtain ⟨s, rfl⟩ : ∃ s : Nat, size = s := ⟨size.toNat, by omega⟩
  rw [Int.toNat_natCast, Int.toNat_natCast]
  refine Ev.eq (refGet_loop l hb hl a s (by omega) (by omega) s 0 0 (by omega) (by omega) (by simp)) ?_
  rw [List.drop_zero]; rfl
theorem Cmp_eq {l m : List Int} (hl : Bytes l) (hm : Bytes m) : bytes_Compare.f l m = some (cmpB l m) := by
  unfold bytes_Compare.f
  rw [strOfNums_data, strOfNums_data, compareBytes_eq hl hm]
theorem Compare_eq {l m : List Int} (hl : Bytes l) (hm : Bytes m) : octets_Compare.f l m = some (cmpB l m) := by
  unfold octets_Compare.f
  rw [Cmp_eq hl hm]; rfl
theorem Common_loop (l m : List Int) (hl : l.length < 9223372036854775807) : ∀ (d : Nat) (i : Nat), i + d = l.length → Ev (fun k => octets_Common.l0 k l m i) (((i + comm (l.drop i) (m.drop i) : Nat)) : Int)
  | 0, i, hi => by
    refine Ev.step (fun k => by rw [octets_Common.l0]) ?_
    refine Ev.iteF (by omega) ?_
    rw [List.drop_of_length_le (by omega : l.length ≤ i)]
    simpa [comm] using Ev.now _
  | d + 1, i, hi => by
    refine Ev.step (fun k => by rw [octets_Common.l0]) ?_
    refine Ev.iteT (by omega) ?_
    by_cases c : i < m.length
    · refine Ev.iteT (by omega) (Ev.iteT (by omega) ?_)
      rw [rd_drop (by omega : i < l.length), rd_drop c, comm]
      by_cases q : rd l i = rd m i
      · refine Ev.iteT q ?_
        rw [wrapInc (by omega), if_pos q]
        refine Ev.eq (Common_loop l m hl d (i + 1) (by omega)) (by omega)
      · rw [if_neg q]
        exact Ev.iteF q (Ev.now _)
    · refine Ev.iteF (by omega) ?_
      rw [List.drop_of_length_le (by omega : m.length ≤ i)]
      have : comm (l.drop i) [] = 0 := by cases l.drop i <;> rfl
      rw [this]
      exact Ev.now _
theorem Common_ev (l m : List Int) (hl : l.length < 9223372036854775807) : Ev (fun k => octets_Common.f k l m) (comm l m : Int) := by
  have := Common_loop l m hl l.length 0 (by omega)
  simpa [octets_Common.f] using this
theorem Ahead_loop (l m : List Int) (hm : m.length < 9223372036854775807) : ∀ (d : Nat) (i : Nat), i + d = m.length → Ev (fun k => terrierref01_Ahead.l0 k l m i) (decide (cmpB (l.drop i) (m.drop i) = -1))
  | 0, i, hi => by
    refine Ev.step (fun k => by rw [terrierref01_Ahead.l0]) ?_
    refine Ev.iteF (by omega) ?_
    rw [List.drop_of_length_le (by omega : m.length ≤ i)]
    have : ¬ cmpB (l.drop i) [] = -1 := by cases l.drop i <;> simp [cmpB]
    rw [decide_eq_false this]
    exact Ev.now _
  | d + 1, i, hi => by
    refine Ev.step (fun k => by rw [terrierref01_Ahead.l0]) ?_
    refine Ev.iteT (by omega) ?_
    rw [rd_drop (by omega : i < m.length)]
    by_cases c : i < l.length
    · refine Ev.iteF (by omega) (Ev.iteT (by omega) (Ev.iteT (by omega) ?_))
      rw [rd_drop c, cmpB]
      by_cases q : rd l i = rd m i
      · rw [if_neg (by omega), if_neg (by omega)]
        refine Ev.iteT q ?_
        rw [wrapInc (by omega)]
        exact Ahead_loop l m hm d (i + 1) (by omega)
      · refine Ev.iteF q ?_
        by_cases r : rd l i < rd m i
        · rw [if_pos r, decide_eq_true r]; exact Ev.now _
        · rw [if_neg r, if_pos (by omega), decide_eq_false r]; exact Ev.now _
    · refine Ev.iteT (by omega) ?_
      rw [List.drop_of_length_le (by omega : l.length ≤ i)]
      exact Ev.now _
theorem Ahead_ev (l m : List Int) (hm : m.length < 9223372036854775807) : Ev (fun k => terrierref01_Ahead.f k l m) (decide (cmpB l m = -1)) := by
  have := Ahead_loop l m hm m.length 0 (by omega)
  simpa [terrierref01_Ahead.f] using this
theorem refCompare_ev (l m : List Int) (hl : l.length < 9223372036854775807) (hm : m.length < 9223372036854775807) : Ev (fun k => terrierref01_Compare.f k l m) (cmpB l m) := by
  unfold terrierref01_Compare.f
  refine Ev.bind (Ahead_ev l m hm) ?_
  have h3 := cmpB_three l m
  have h4 := cmpB_swap l m
  by_cases c : cmpB l m = -1
  · rw [decide_eq_true c]
    refine Ev.iteT rfl ?_
    rw [c]; exact Ev.now _
  · rw [decide_eq_false c]
    refine Ev.iteF (by simp) (Ev.bind (Ahead_ev m l hl) ?_)
    by_cases c2 : cmpB m l = -1
    · rw [decide_eq_true c2]
      refine Ev.iteT rfl ?_
      rw [show cmpB l m = 1 by omega]; exact Ev.now _
    · rw [decide_eq_false c2]
      refine Ev.iteF (by simp) ?_
      rw [show cmpB l m = 0 by omega]; exact Ev.now _
/-! ### the end of a prefix's range -/
def endF : List Int → Option (List Int)
  | [] => none
  | x :: p => match endF p with
    | some e => some (x :: e)
    | none => if x = 255 then none else some [x + 1]
theorem endF_snoc : ∀ (l : List Int) (x : Int), endF (l ++ [x]) = if x = 255 then endF l else some (l ++ [x + 1])
  | [], x => by simp [endF]
  | y :: l, x => by
    simp only [List.cons_append, endF, endF_snoc l x]
    by_cases h : x = 255
    · simp [h]
    · simp [h]
theorem endF_some : ∀ (p e : List Int), Bytes p → endF p = some e → e ≠ [] ∧ e ≠ [0] ∧ Bytes e
  | [], e, _, h => by simp [endF] at h
  | x :: p, e, hb, h => by
    have hx := (bytes_cons.1 hb).1
    unfold endF at h
    cases hp : endF p with
    | some e' =>
      rw [hp] at h
      obtain ⟨a1, a2, a3⟩ := endF_some p e' (bytes_cons.1 hb).2 hp
      simp only [Option.some.injEq] at h
      subst h
      refine ⟨by simp, ?_, bytes_cons.2 ⟨hx, a3⟩⟩
      intro h'
      simp only [List.cons.injEq] at h'
      exact a1 h'.2
    | none =>
      rw [hp] at h
      by_cases hx' : x = 255
      · simp [hx'] at h
      · simp only [hx', if_false, Option.some.injEq] at h
        subst h
        refine ⟨by simp, ?_, bytes_cons.2 ⟨by omega, bytes_nil⟩⟩
        intro h'
        simp only [List.cons.injEq] at h'
        omega
def endB (p : List Int) : List Int := (endF p).getD [0]
theorem endB_bytes {p : List Int} (h : Bytes p) : Bytes (endB p) := by
  unfold endB
  cases he : endF p with
  | none => simp [Bytes]
  | some e => exact (endF_some p e h he).2.2
theorem endF_cons (x : Int) (p : List Int) : endF (x :: p) = match endF p with
    | some e => some (x :: e)
    | none => if x = 255 then none else some [x + 1] := rfl
theorem endF_prefix : ∀ (p k : List Int), Bytes p → Bytes k → ((0 ≤ cmpB k p ∧ ∀ e, endF p = some e → cmpB k e < 0) ↔ p <+: k)
  | [], k, _, _ => by
    cases k <;> simp [cmpB, endF]
  | x :: p, [], _, _ => by simp [cmpB]
  | x :: p, y :: k, hp, hk => by
    have hx := (bytes_cons.1 hp).1
    have hy := (bytes_cons.1 hk).1
    have ih := endF_prefix p k (bytes_cons.1 hp).2 (bytes_cons.1 hk).2
    rw [List.cons_prefix_cons, ← ih, endF_cons, cmpB_cons]
    cases he : endF p with
    | some e' =>
      simp only [Option.some.injEq, forall_eq']
      rw [cmpB_cons]
      by_cases h1 : y < x
      · rw [if_pos h1]; constructor
        · intro h; omega
        · intro h; omega
      · by_cases h2 : x < y
        · rw [if_neg h1, if_pos h2, if_neg h1, if_pos h2]; constructor
          · intro h; omega
          · intro h; omega
        · have : x = y := by omega
          rw [if_neg h1, if_neg h2, if_neg h1, if_neg h2]
          exact ⟨fun h => ⟨this, h⟩, fun h => h.2⟩
    | none =>
      simp only [reduceCtorEq, false_implies, implies_true, and_true]
      by_cases h255 : x = 255
      · rw [if_pos h255]
        by_cases h2 : y < x
        · rw [if_pos h2]; constructor
          · intro h; omega
          · intro h; omega
        · have h3 : ¬ x < y := by omega
          rw [if_neg h2, if_neg h3]
          exact ⟨fun h => ⟨by omega, h.1⟩, fun h => ⟨h.2, fun e z => by cases z⟩⟩
      · rw [if_neg h255]
        simp only [Option.some.injEq, forall_eq']
        rw [cmpB_cons]
        by_cases h1 : y < x
        · rw [if_pos h1]; constructor
          · intro h; omega
          · intro h; omega
        · by_cases h2 : x < y
          · have h3 : ¬ y < x + 1 := by omega
            rw [if_neg h1, if_pos h2, if_neg h3]
            by_cases h4 : x + 1 < y
            · rw [if_pos h4]; constructor
              · intro h; omega
              · intro h; omega
            · rw [if_neg h4]
              have : ¬ cmpB k [] < 0 := by cases k <;> simp [cmpB]
              constructor
              · intro h; omega
              · intro h; omega
          · have : x = y := by omega
            rw [if_neg h1, if_neg h2, if_pos (by omega)]
            exact ⟨fun h => ⟨this, h.1⟩, fun h => ⟨h.2, by omega⟩⟩
/-- Is a key in a range? -/
def inB (k key e : List Int) : Bool := if e = [] then decide (k = key) else if e = [0] then decide (0 ≤ cmpB k key) else decide (0 ≤ cmpB k key) && decide (cmpB k e < 0)
theorem inB_prefix {p k : List Int} (hp : Bytes p) (hk : Bytes k) : inB k p (endB p) = decide (p <+: k) := by
  have h := endF_prefix p k hp hk
  unfold inB endB
  cases he : endF p with
  | none =>
    rw [he] at h
    simp at h
    simp [h]
  | some e =>
    obtain ⟨a1, a2, _⟩ := endF_some p e hp he
    rw [he] at h
    simp at h
    simp only [Option.getD_some, a1, a2, if_false]
    by_cases q : p <+: k
    · have := h.2 q
      simp [q, this.1, this.2]
    · rw [decide_eq_false q]
      by_cases q1 : 0 ≤ cmpB k p
      · have : ¬ cmpB k e < 0 := fun z => q (h.1 ⟨q1, z⟩)
        simp [this]
      · simp [q1]
theorem End_loop (l : List Int) (hb : Bytes l) (hl : l.length ≤ 140737488351232) : ∀ (n : Nat), n ≤ l.length → Ev (fun k => octets_End.l0 k l n) (endB (l.take n))
  | 0, _ => by
    refine Ev.step (fun k => by rw [octets_End.l0]) ?_
    refine Ev.iteF (by omega) ?_
    simpa [endB, endF] using Ev.now _
  | n + 1, hn => by
    refine Ev.step (fun k => by rw [octets_End.l0]) ?_
    have e1 : wrap64 (((n + 1 : Nat) : Int) - 1) = (n : Int) := by rw [wrap64_id (by omega) (by omega)]; omega
    rw [e1]
    refine Ev.iteT (by omega) (Ev.iteT (by omega) (Ev.iteT (by omega) ?_))
    have hx := rd_byte hb (n : Int)
    have tk : l.take (n + 1) = l.take n ++ [rd l n] := by
      rw [List.take_add_one]
      simp [rd, List.getD_eq_getElem?_getD, List.getElem?_eq_getElem (by omega : n < l.length)]
    by_cases c : rd l (n : Int) = 255
    · refine Ev.iteT c (Ev.eq (End_loop l hb hl n (by omega)) ?_)
      unfold endB
      rw [tk, endF_snoc, if_pos c]
    · refine Ev.iteF c (Ev.iteT (by omega) (Ev.iteT (by omega) (Ev.bind0 (Clone_eq (by simp; omega)) (Ev.iteT (by simp; omega) ?_))))
      have e2 : (((n + 1 : Nat) : Int)).toNat = n + 1 := Int.toNat_natCast _
      rw [e2, Int.toNat_natCast]
      refine Ev.eq (Ev.now _) ?_
      have e3 : rd (l.take (n + 1)) (n : Int) = rd l n := rd_take (by omega)
      unfold endB
      rw [e3, tk, endF_snoc, if_neg c]
      have e4 : (rd l (n : Int) + 1) % 256 = rd l n + 1 := by omega
      rw [e4]
      simp [List.set_append, Nat.min_eq_left (by omega : n ≤ l.length)]
theorem End_ev (l : List Int) (hb : Bytes l) (hl : l.length ≤ 140737488351232) : Ev (fun k => octets_End.f k l) (endB l) := by
  have := End_loop l hb hl l.length (Nat.le_refl _)
  rwa [List.take_length] at this
theorem Full_loop (l : List Int) (hl : l.length ≤ 140737488351232) : ∀ (d i : Nat), i + d = l.length → Ev (fun k => terrierref01_Full.l0 k l (l.length : Int) i) ((l.drop i).all (· == 255))
  | 0, i, hi => by
    refine Ev.step (fun k => by rw [terrierref01_Full.l0]) ?_
    refine Ev.iteF (by omega) ?_
    rw [List.drop_of_length_le (by omega)]
    exact Ev.now _
  | d + 1, i, hi => by
    refine Ev.step (fun k => by rw [terrierref01_Full.l0]) ?_
    refine Ev.iteT (by omega) (Ev.iteT (by omega) (Ev.iteT (by omega) ?_))
    rw [rd_drop (by omega : i < l.length), wrapInc (by omega)]
    by_cases c : rd l (i : Int) = 255
    · refine Ev.iteT c (Ev.eq (Full_loop l hl d (i + 1) (by omega)) ?_)
      simp [c]
    · refine Ev.iteF c (Ev.eq (Ev.now _) ?_)
      simp [c]
theorem Full_ev (l : List Int) (hl : l.length ≤ 140737488351232) : Ev (fun k => terrierref01_Full.f k l) (l.all (· == 255)) := by
  have := Full_loop l hl l.length 0 (by omega)
  rwa [List.drop_zero] at this
theorem endF_full : ∀ (l : List Int), endF l = none ↔ l.all (· == 255) = true
  | [] => by simp [endF]
  | x :: l => by
    have ih := endF_full l
    unfold endF
    cases he : endF l with
    | some e =>
      have hn : ¬ l.all (· == 255) = true := fun z => by rw [ih.2 z] at he; cases he
      simp only [List.all_cons, Bool.and_eq_true]
      simp only [reduceCtorEq, false_iff]
      exact fun z => hn z.2
    | none =>
      have hn := ih.1 he
      rw [List.all_cons, hn]
      by_cases h : x = 255 <;> simp [h]
theorem refEnd_loop (l : List Int) (hb : Bytes l) (hl : l.length ≤ 140737488351232) : ∀ (n : Nat), n ≤ l.length → endF (l.take n) ≠ none → Ev (fun k => terrierref01_End.l0 k (l.take n)) (endB (l.take n))
  | 0, _, h => by simp [endF] at h
  | n + 1, hn, h => by
    refine Ev.step (fun k => by rw [terrierref01_End.l0]) ?_
    have len : (l.take (n + 1)).length = n + 1 := by simp; omega
    have e1 : wrap64 (((l.take (n + 1)).length : Int) - 1) = (n : Int) := by rw [len, wrap64_id (by omega) (by omega)]; omega
    rw [e1]
    have hx := rd_byte hb (n : Int)
    have e3 : rd (l.take (n + 1)) (n : Int) = rd l n := rd_take (by omega)
    have tk : l.take (n + 1) = l.take n ++ [rd l n] := by
      rw [List.take_add_one]
      simp [rd, List.getD_eq_getElem?_getD, List.getElem?_eq_getElem (by omega : n < l.length)]
    rw [e3]
    refine Ev.iteT (by omega) (Ev.iteT (by omega) ?_)
    by_cases c : rd l (n : Int) = 255
    · refine Ev.iteT c (Ev.iteT (by omega) ?_)
      have e5 : endF (l.take (n + 1)) = endF (l.take n) := by rw [tk, endF_snoc, if_pos c]
      rw [Int.toNat_natCast, List.take_take, Nat.min_eq_left (by omega)]
      refine Ev.eq (refEnd_loop l hb hl n (by omega) (by rw [← e5]; exact h)) ?_
      unfold endB; rw [e5]
    · refine Ev.iteF c (Ev.eq (Ev.now _) ?_)
      rw [Int.toNat_natCast]
      unfold endB
      have e4 : (rd l (n : Int) + 1) % 256 = rd l n + 1 := by omega
      rw [e4, tk, endF_snoc, if_neg c]
      simp [List.set_append, Nat.min_eq_left (by omega : n ≤ l.length)]
theorem refEnd_ev (l : List Int) (hb : Bytes l) (hl : l.length ≤ 140737488351232) : Ev (fun k => terrierref01_End.f k l) (endB l) := by
  unfold terrierref01_End.f
  refine Ev.bind (Full_ev l hl) ?_
  by_cases c : l.all (· == 255) = true
  · refine Ev.iteT c ?_
    unfold endB
    rw [(endF_full l).2 c]
    exact Ev.now _
  · refine Ev.iteF c (Ev.bind0 (Twin_eq (by omega)) ?_)
    have := refEnd_loop l hb hl l.length (Nat.le_refl _) (by rw [List.take_length]; exact fun z => c ((endF_full l).1 z))
    rwa [List.take_length] at this
theorem len_one {l : List Int} (h : l.length = 1) : l = [rd l 0] := by
  match l, h with
  | [x], _ => rfl
theorem In_ev (k key e : List Int) (hk : Bytes k) (hy : Bytes key) (he : Bytes e) : Ev (fun n => octets_In.f n k key e) (inB k key e) := by
  have t1 : ∀ n, octets_In.j0 (n + 1) k key e true = some (decide (cmpB k key ≥ 0)) := by
    intro n; rw [octets_In.j0, if_pos rfl, Cmp_eq hk hy]; rfl
  have t2 : ∀ n, octets_In.j0 (n + 1) k key e false = some (decide (0 ≤ cmpB k key) && decide (cmpB k e < 0)) := by
    intro n; rw [octets_In.j0, if_neg (by simp), Cmp_eq hk hy, Option.bind_some, Cmp_eq hk he]
    by_cases c : cmpB k key ≥ 0
    · rw [if_pos c, decide_eq_true (show 0 ≤ cmpB k key from c)]; rfl
    · rw [if_neg c, decide_eq_false (show ¬ 0 ≤ cmpB k key from c)]; rfl
  unfold octets_In.f inB
  by_cases c0 : (e.length : Int) = 0
  · have : e = [] := List.eq_nil_of_length_eq_zero (by omega)
    refine Ev.iteT c0 ?_
    rw [if_pos this, Equal_eq hk hy]
    exact Ev.now _
  refine Ev.iteF c0 ?_
  have ne : e ≠ [] := fun z => c0 (by rw [z]; rfl)
  rw [if_neg ne]
  by_cases c1 : (e.length : Int) = 1
  · have e1 := len_one (l := e) (by omega)
    refine Ev.iteT c1 (Ev.iteT (by omega) ?_)
    by_cases c2 : rd e 0 = 0
    · have : e = [0] := by rw [e1, c2]
      rw [if_pos this, c2]
      exact Ev.step (f := fun _ => some (decide (cmpB k key ≥ 0))) t1 (Ev.now _)
    · have : e ≠ [0] := fun z => c2 (by rw [z]; rfl)
      rw [if_neg this, show (rd e 0 == 0) = false by simp [c2]]
      exact Ev.step t2 (Ev.now _)
  · have : e ≠ [0] := fun z => c1 (by rw [z]; rfl)
    rw [if_neg this]
    exact Ev.iteF c1 (Ev.step t2 (Ev.now _))
theorem refIn_ev (k key e : List Int) (hk : Bytes k) (hy : Bytes key) (he : Bytes e) (ly : key.length ≤ 140737488351232) (le : e.length ≤ 140737488351232) : Ev (fun n => terrierref01_In.f n k key e) (inB k key e) := by
  unfold terrierref01_In.f inB
  by_cases c0 : (e.length : Int) = 0
  · have : e = [] := List.eq_nil_of_length_eq_zero (by omega)
    refine Ev.iteT c0 ?_
    rw [if_pos this, Same_eq hk hy]
    exact Ev.now _
  have ne : e ≠ [] := fun z => c0 (by rw [z]; rfl)
  refine Ev.iteF c0 (Ev.bind (Ahead_ev k key (by omega)) ?_)
  rw [if_neg ne]
  have h3 := cmpB_three k key
  have h4 := cmpB_three k e
  by_cases c1 : cmpB k key = -1
  · rw [decide_eq_true c1]
    refine Ev.iteT rfl ?_
    have : ¬ 0 ≤ cmpB k key := by omega
    simp [this]
    exact Ev.now _
  · rw [decide_eq_false c1]
    have q : 0 ≤ cmpB k key := by omega
    refine Ev.iteF (by simp) ?_
    rw [Same_eq he (by simp [Bytes])]
    refine Ev.bind0 rfl ?_
    by_cases c2 : e = [0]
    · rw [decide_eq_true c2, if_pos c2, decide_eq_true q]
      exact Ev.iteT rfl (Ev.now _)
    · rw [decide_eq_false c2, if_neg c2]
      refine Ev.iteF (by simp) (Ev.bind (Ahead_ev k e (by omega)) ?_)
      rw [decide_eq_true q]
      refine Ev.eq (Ev.now _) ?_
      by_cases z : cmpB k e = -1
      · rw [decide_eq_true z, decide_eq_true (by omega)]; rfl
      · rw [decide_eq_false z, decide_eq_false (by omega)]; rfl
end Go.Proofs.Ytleonalpeicjaaa.Oct
