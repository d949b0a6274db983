/- What octets.Put, octets.Get and the document's Put, Fits, Get, Twin, Same come to, as plain functions. -/
import Derived.Test.YtandeendeoempaaBase
import Derived.Test.YtandeendeoempaaPMx11
import Derived.Test.YtandeendeoempaaPMx13
import Derived.Test.YtandeendeoempaaPMx3
import Derived.Test.YtandeendeoempaaPMx5
import Derived.Test.YtandeendeoempaaPMx8
namespace Go.Proofs.Ytandeendeoempaa.Oct
open Go.RowKit Go.Proofs.YtandeendeoempaaW.PrintWords Go.Proofs.YtandeendeoempaaW.PrintMore Go.Proofs.Ytandeendeoempaa.PM Go.Proofs.Ytandeendeoempaa.Base
def putE (n size : Int) : List Int × Int :=
  if size < 1 ∨ 8 < size then ([], 1) else if n / 256 ^ size.toNat ≠ 0 then ([], 2) else (putB n size.toNat, 0)
theorem Put_loop (n size : Int) (hs : size ≤ 8) : ∀ (d : Nat) (i : Nat) (xs : List Int), (i : Int) + d = size → xs.length = d + i →
    Ev (fun k => octets_Put.l0 k n size xs size i) (putB (n / 256 ^ i) d ++ xs.drop d, 0)
  | 0, i, xs, hi, hx => by
    refine Ev.step (fun k => by rw [octets_Put.l0]) ?_
    refine Ev.iteF (by omega) ?_
    simpa [putB] using Ev.now _
  | d + 1, i, xs, hi, hx => by
    refine Ev.step (fun k => by rw [octets_Put.l0]) ?_
    have e1 : wrap64 (size - 1) = size - 1 := wrap64_id (by omega) (by omega)
    have e2 : wrap64 (size - 1 - i) = d := by rw [wrap64_id (by omega) (by omega)]; omega
    have e3 : wrap64 ((i : Int) + 1) = ((i + 1 : Nat) : Int) := by rw [wrap64_id (by omega) (by omega)]; omega
    have e4 : wrap64 (8 * (i : Int)) = 8 * (i : Int) := wrap64_id (by omega) (by omega)
    rw [e1, e2, e3, e4]
    refine Ev.iteT (by omega) (Ev.iteT (by omega) (Ev.iteT (by omega) (Ev.iteT (by omega) ?_)))
    have := Put_loop n size hs d (i + 1) (xs.set d (n / 256 ^ i % 256)) (by omega) (by simp; omega)
    rw [shr_bytes n i (by omega), Int.toNat_natCast]
    refine Ev.eq this ?_
    rw [putB, div_pow_succ, List.drop_set, if_neg (by omega), Nat.sub_self]
    have hl : d < xs.length := by omega
    rw [List.drop_eq_getElem_cons hl, List.set_cons_zero]
    simp
theorem Put_ev (n size : Int) (h0 : 0 ≤ n) (h1 : n < 18446744073709551616) (hs0 : -9223372036854775808 ≤ size) (hs1 : size ≤ 9223372036854775807) :
    Ev (fun k => octets_Put.f k n size) (putE n size) := by
  unfold octets_Put.f putE
  by_cases c1 : size < 1
  · rw [if_pos (Or.inl c1)]
    refine Ev.iteT c1 (Ev.step (fun k => by rw [octets_Put.j0]) ?_)
    exact Ev.iteT rfl (Ev.now _)
  by_cases c2 : 8 < size
  · rw [if_pos (Or.inr c2)]
    refine Ev.iteF c1 (Ev.step (fun k => by rw [octets_Put.j0]) ?_)
    exact Ev.iteT (by simpa using c2) (Ev.now _)
  rw [if_neg (by omega)]
  refine Ev.iteF c1 (Ev.step (fun k => by rw [octets_Put.j0]) ?_)
  refine Ev.iteF (by simpa using c2) ?_
  obtain ⟨s, rfl⟩ : ∃ s : Nat, size = s := ⟨size.toNat, by omega⟩
  have e8 : wrap64 (8 * (s : Int)) = 8 * (s : Int) := wrap64_id (by omega) (by omega)
  have tail : ∀ b : Bool, Ev (fun k => octets_Put.j1 k n s b) (if b = true then ([], 2) else (putB n s, 0)) := by
    intro b
    refine Ev.step (fun k => by rw [octets_Put.j1]) ?_
    by_cases hb : b = true
    · rw [if_pos hb]; exact Ev.iteT hb (Ev.now _)
    · rw [if_neg hb]
      refine Ev.iteF hb (Ev.iteT (by omega) (Ev.iteT (by rw [Int.toNat_natCast]; omega) ?_))
      have := Put_loop n s (by omega) s 0 (List.replicate s 0) (by omega) (by simp)
      rw [Int.toNat_natCast]
      refine Ev.eq this ?_
      simp
  by_cases c3 : (s : Int) < 8
  · refine Ev.iteT c3 (Ev.iteT (by omega) ?_)
    rw [e8, shr_bytes n s (by omega)]
    refine Ev.eq (tail _) ?_
    rw [Int.toNat_natCast]
    by_cases z : n / 256 ^ s = 0 <;> simp [z]
  · refine Ev.iteF c3 (Ev.eq (tail _) ?_)
    have : s = 8 := by omega
    subst this
    have z : n / 256 ^ (Int.toNat ((8 : Nat) : Int)) = 0 := by rw [Int.toNat_natCast, pow256_8]; omega
    rw [if_neg (by simp), if_neg (by rw [z]; simp), Int.toNat_natCast]
theorem Same_eq {l m : List Int} (hl : Bytes l) (hm : Bytes m) : terrierref01_Same.f l m = some (decide (l = m)) := by
  unfold terrierref01_Same.f; rw [same_bytes hl hm]
theorem Same_self (l : List Int) : terrierref01_Same.f l l = some true := by
  unfold terrierref01_Same.f; rw [same_self]
def getE (l : List Int) (i size : Int) : Int × Int :=
  if size < 1 ∨ 8 < size then (0, 1) else if i < 0 ∨ (l.length : Int) < i ∨ (l.length : Int) - i < size then (0, 3) else (getB ((l.drop i.toNat).take size.toNat), 0)
theorem getA_step {a x : Int} {n d : Nat} (h0 : 0 ≤ a) (ha : a < 256 ^ n) (hx : 0 ≤ x ∧ x < 256) (hd : n + (d + 1) ≤ 8) : a * 256 < 18446744073709551616 ∧ 0 ≤ a * 256 + x ∧ a * 256 + x < 256 ^ (n + 1) := by
  have h1 := pow256_le (d := n + 1) (by omega)
  rw [Int.pow_succ] at h1 ⊢
  omega
theorem Get_loop (ys : List Int) (hy : Bytes ys) (hl : ys.length ≤ 8) : ∀ (d : Nat) (i : Nat) (a : Int), i + d = ys.length → 0 ≤ a → a < 256 ^ i →
    Ev (fun k => octets_Get.l0 k a ys (ys.length : Int) i) (getA a (ys.drop i), 0)
  | 0, i, a, hi, _, _ => by
    refine Ev.step (fun k => by rw [octets_Get.l0]) ?_
    refine Ev.iteF (by omega) ?_
    rw [List.drop_of_length_le (by omega)]
    exact Ev.now _
  | d + 1, i, a, hi, h0, h1 => by
    refine Ev.step (fun k => by rw [octets_Get.l0]) ?_
    refine Ev.iteT (by omega) (Ev.iteT (by omega) (Ev.iteT (by omega) ?_))
    have hx := rd_byte hy (i : Int)
    obtain ⟨b1, b2, b3⟩ := getA_step (d := d) h0 h1 hx (by omega)
    rw [wrap_u64_id (by omega) (by omega), wrap_u64_id (by omega) (by omega), or_byte h0 (by omega) hx.1 hx.2, wrapInc (by omega)]
    refine Ev.eq (Get_loop ys hy hl d (i + 1) _ (by omega) b2 b3) ?_
    rw [rd_drop (by omega : i < ys.length)]; rfl
theorem Get_ev (l : List Int) (i size : Int) (hb : Bytes l) (hl : (l.length : Int) ≤ 9223372036854775800) (hi0 : -9223372036854775808 ≤ i) (hi1 : i ≤ 9223372036854775807) (hs0 : -9223372036854775808 ≤ size) (hs1 : size ≤ 9223372036854775807) :
    Ev (fun k => octets_Get.f k l i size) (getE l i size) := by
  unfold octets_Get.f getE
  by_cases c1 : size < 1
  · rw [if_pos (Or.inl c1)]
    refine Ev.iteT c1 (Ev.step (fun k => by rw [octets_Get.j0]) ?_)
    exact Ev.iteT rfl (Ev.now _)
  by_cases c2 : 8 < size
  · rw [if_pos (Or.inr c2)]
    refine Ev.iteF c1 (Ev.step (fun k => by rw [octets_Get.j0]) ?_)
    exact Ev.iteT (by simpa using c2) (Ev.now _)
  rw [if_neg (by omega)]
  refine Ev.iteF c1 (Ev.step (fun k => by rw [octets_Get.j0]) ?_)
  refine Ev.iteF (by simpa using c2) ?_
  have bad : Ev (fun k => octets_Get.j1 k l i size true) (0, 3) := by
    refine Ev.step (fun k => by rw [octets_Get.j1]) ?_
    exact Ev.iteT rfl (Ev.now _)
  by_cases c3 : i < 0
  · rw [if_pos (Or.inl c3)]; exact Ev.iteT c3 bad
  refine Ev.iteF c3 ?_
  by_cases c4 : i > (l.length : Int)
  · rw [if_pos (Or.inr (Or.inl (by omega)))]; exact Ev.iteT c4 bad
  refine Ev.iteF c4 ?_
  rw [wrap64_id (by omega) (by omega)]
  by_cases c5 : size > (l.length : Int) - i
  · rw [if_pos (Or.inr (Or.inr (by omega))), decide_eq_true c5]; exact bad
  rw [if_neg (by omega), decide_eq_false c5]
  refine Ev.step (fun k => by rw [octets_Get.j1]) ?_
  have e : wrap64 (i + size) = i + size := wrap64_id (by omega) (by omega)
  rw [e]
  refine Ev.iteF (by simp) (Ev.iteT (by omega) (Ev.iteT (by omega) (Ev.iteT (by omega) (Ev.bind0 rfl ?_))))
  obtain ⟨a, rfl⟩ : ∃ a : Nat, i = a := ⟨i.toNat, by omega⟩
  obtain ⟨s, rfl⟩ : ∃ s : Nat, size = s := ⟨size.toNat, by omega⟩
  have e2 : ((a : Int) + s).toNat = a + s := by omega
  have e3 : (l.take (a + s)).drop a = (l.drop a).take s := by rw [List.drop_take]; congr 1; omega
  rw [e2, Int.toNat_natCast, Int.toNat_natCast, e3]
  have hlen : ((l.drop a).take s).length = s := by simp; omega
  refine Ev.eq (Get_loop _ (bytes_take (bytes_drop hb a) s) (by omega) s 0 0 (by omega) (by omega) (by simp)) ?_
  rw [List.drop_zero]; rfl
theorem Cmp_eq {l m : List Int} (hl : Bytes l) (hm : Bytes m) : bytes_Compare.f l m = some (cmpB l m) := by
  unfold bytes_Compare.f
  rw [strOfNums_data, strOfNums_data, compareBytes_eq hl hm]
end Go.Proofs.Ytandeendeoempaa.Oct
