/- What octets.Put, octets.Get and the document's Put, Fits, Get, Twin, Same come to, as plain functions. -/
import Derived.Test.YtlhjdmpclfhoeaaBase
import Derived.Test.YtlhjdmpclfhoeaaPCx10
import Derived.Test.YtlhjdmpclfhoeaaPCx15
import Derived.Test.YtlhjdmpclfhoeaaPCx2
namespace Go.Proofs.Ytlhjdmpclfhoeaa.Oct
open Go.RowKit Go.Proofs.YtlhjdmpclfhoeaaW.PrintWords Go.Proofs.YtlhjdmpclfhoeaaW.PrintMore Go.Proofs.Ytlhjdmpclfhoeaa.PC Go.Proofs.Ytlhjdmpclfhoeaa.Base
def putE (n size : Int) : List Int × Int :=
  if size < 1 ∨ 8 < size then ([], 1) else if n / 256 ^ size.toNat ≠ 0 then ([], 2) else (putB n size.toNat, 0)
theorem Put_loop (n size : Int) (hs : size ≤ 8) : ∀ (d : Nat) (i : Nat) (xs : List Int), (i : Int) + d = size → xs.length = d + i →
    Ev (fun k => octets_Put.l0 k n size xs size i) (putB (n / 256 ^ i) d ++ xs.drop d, 0)
  | 0, i, xs, hi, hx => by
    refine Ev.step (fun k => by rw [octets_Put.l0]) ?_
    refine Ev.iteF (by omega) ?_
    simpa [putB] using Ev.now _
  | d + 1, i, xs, hi, hx => by
    refine Ev.step (fun k => by rw [octets_Put.l0]) ?_
    have e1 : wrap64 (size - 1) = size - 1 := wrap64_id (by omega) (by omega)
    have e2 : wrap64 (size - 1 - i) = d := by rw [wrap64_id (by omega) (by omega)]; omega
    have e3 : wrap64 ((i : Int) + 1) = ((i + 1 : Nat) : Int) := by rw [wrap64_id (by omega) (by omega)]; omega
    have e4 : wrap64 (8 * (i : Int)) = 8 * (i : Int) := wrap64_id (by omega) (by omega)
    rw [e1, e2, e3, e4]
    refine Ev.iteT (by omega) (Ev.iteT (by omega) (Ev.iteT (by omega) (Ev.iteT (by omega) ?_)))
    have := Put_loop n size hs d (i + 1) (xs.set d (n / 256 ^ i % 256)) (by omega) (by simp; omega)
    rw [shr_bytes n i (by omega), Int.toNat_natCast]
    refine Ev.eq this ?_
    rw [putB, div_pow_succ, List.drop_set, if_neg (by omega), Nat.sub_self]
    have hl : d < xs.length := by omega
    rw [List.drop_eq_getElem_cons hl, List.set_cons_zero]
    simp
theorem Put_ev (n size : Int) (h0 : 0 ≤ n) (h1 : n < 18446744073709551616) (hs0 : -9223372036854775808 ≤ size) (hs1 : size ≤ 9223372036854775807) :
    Ev (fun k => octets_Put.f k n size) (putE n size) := by
  unfold octets_Put.f putE
  by_cases c1 : size < 1
  · rw [if_pos (Or.inl c1)]
    refine Ev.iteT c1 (Ev.step (fun k => by rw [octets_Put.j0]) ?_)
    exact Ev.iteT rfl (Ev.now _)
  by_cases c2 : 8 < size
  · rw [if_pos (Or.inr c2)]
    refine Ev.iteF c1 (Ev.step (fun k => by rw [octets_Put.j0]) ?_)
    exact Ev.iteT (by simpa using c2) (Ev.now _)
  rw [if_neg (by omega)]
  refine Ev.iteF c1 (Ev.step (fun k => by rw [octets_Put.j0]) ?_)
  refine Ev.iteF (by simpa using c2) ?_
  obtain ⟨s, rfl⟩ : ∃ s : Nat, size = s := ⟨size.toNat, by omega⟩
  have e8 : wrap64 (8 * (s : Int)) = 8 * (s : Int) := wrap64_id (by omega) (by omega)
  have tail : ∀ b : Bool, Ev (fun k => octets_Put.j1 k n s b) (if b = true then ([], 2) else (putB n s, 0)) := by
    intro b
    refine Ev.step (fun k => by rw [octets_Put.j1]) ?_
    by_cases hb : b = true
    · rw [if_pos hb]; exact Ev.iteT hb (Ev.now _)
    · rw [if_neg hb]
      refine Ev.iteF hb (Ev.iteT (by omega) (Ev.iteT (by rw [Int.toNat_natCast]; omega) ?_))
      have := Put_loop n s (by omega) s 0 (List.replicate s 0) (by omega) (by simp)
      rw [Int.toNat_natCast]
      refine Ev.eq this ?_
      simp
  by_cases c3 : (s : Int) < 8
  · refine Ev.iteT c3 (Ev.iteT (by omega) ?_)
    rw [e8, shr_bytes n s (by omega)]
    refine Ev.eq (tail _) ?_
    rw [Int.toNat_natCast]
    by_cases z : n / 256 ^ s = 0 <;> simp [z]
  · refine Ev.iteF c3 (Ev.eq (tail _) ?_)
    have : s = 8 := by omega
    subst this
    have z : n / 256 ^ (Int.toNat ((8 : Nat) : Int)) = 0 := by rw [Int.toNat_natCast, pow256_8]; omega
    rw [if_neg (by simp), if_neg (by rw [z]; simp), Int.toNat_natCast]
theorem refPut_loop (size : Int) (hs : size ≤ 9223372036854775807) (ht : size ≤ 1000000) : ∀ (d : Nat) (i : Nat) (n : Int) (xs : List Int), (i : Int) + d = size → xs.length = i → 0 ≤ n → n < 18446744073709551616 →
    Ev (fun k => terrierref01_Put.l0 k n size xs i) (putB n d ++ xs)
  | 0, i, n, xs, hi, _, _, _ => by
    refine Ev.step (fun k => by rw [terrierref01_Put.l0]) ?_
    refine Ev.iteF (by omega) ?_
    simpa [putB] using Ev.now _
  | d + 1, i, n, xs, hi, hx, h0, h1 => by
    refine Ev.step (fun k => by rw [terrierref01_Put.l0]) ?_
    refine Ev.iteT (by omega) (Ev.bind0 rfl (Ev.iteT (by simp; omega) ?_))
    have e3 : wrap64 ((i : Int) + 1) = ((i + 1 : Nat) : Int) := by rw [wrap64_id (by omega) (by omega)]; omega
    rw [Int.tdiv_eq_ediv_of_nonneg h0, wrap_u64_id (by omega) (by omega), e3, Int.tmod_eq_emod_of_nonneg h0]
    refine Ev.eq (refPut_loop size hs ht d (i + 1) (n / 256) _ (by omega) (by simp; omega) (by omega) (by omega)) ?_
    rw [putB]; simp
theorem refPut_ev (n size : Int) (h0 : 0 ≤ n) (h1 : n < 18446744073709551616) (hs0 : 0 ≤ size) (hs1 : size ≤ 8) :
    Ev (fun k => terrierref01_Put.f k n size) (putB n size.toNat) := by
  have := refPut_loop size (by omega) (by omega) size.toNat 0 n [] (by omega) rfl h0 h1
  simpa [terrierref01_Put.f] using this
theorem Same_self (l : List Int) : terrierref01_Same.f l l = some true := by
  unfold terrierref01_Same.f; rw [same_self]
end Go.Proofs.Ytlhjdmpclfhoeaa.Oct
