/- Turned bits of a sealed row, in plain numbers: a row of which bits are turned within 32 in a row is no sealed row. -/
import Derived.Test.YtandeendeoempaaSumPageTurned
namespace Go.Proofs.Ytandeendeoempaa.Trn
open Go.RowKit Go.Proofs.YtandeendeoempaaW.PrintWords Go.Proofs.YtandeendeoempaaW.PrintLast Go.Proofs.YtandeendeoempaaW.PrintMore Go.Proofs.Ytandeendeoempaa.PM Go.Proofs.Ytandeendeoempaa.Base Go.Proofs.Ytandeendeoempaa.Oct Go.Proofs.Ytandeendeoempaa.Crc Go.Proofs.Ytandeendeoempaa.Sum
theorem low_succ (t i : Nat) : t % 2 ^ (i + 1) = t % 2 ^ i + 2 ^ i * (t / 2 ^ i % 2) := by
  rw [Nat.pow_succ, Nat.mod_mul]
theorem low_xor (t i : Nat) (h : t / 2 ^ i % 2 = 1) : t % 2 ^ (i + 1) = t % 2 ^ i ^^^ 2 ^ i := by
  have hp : 0 < 2 ^ i := Nat.pow_pos (by decide)
  have e := xor_low i 1 (t % 2 ^ i) (Nat.mod_lt _ hp)
  rw [Nat.mul_one] at e
  rw [low_succ, h, Nat.mul_one, Nat.xor_comm, e, Nat.add_comm]
theorem low_same (t i : Nat) (h : ¬ t / 2 ^ i % 2 = 1) : t % 2 ^ (i + 1) = t % 2 ^ i := by
  rw [low_succ, show t / 2 ^ i % 2 = 0 from by omega, Nat.mul_zero, Nat.add_zero]
theorem num_set : ∀ (s : List Int) (q r : Nat), Bytes s → q < s.length → r < 8 → num (s.set q (((rd s q).toNat ^^^ 2 ^ r : Nat) : Int)) = num s ^^^ 2 ^ (8 * q + r)
  | [], _, _, _, h, _ => by simp at h
  | x :: s, 0, r, hb, _, hr => by
    have hx := (bytes_cons.1 hb).1
    have h8 : x.toNat < 2 ^ 8 := by omega
    have hr8 : 2 ^ r < 2 ^ 8 := Nat.pow_lt_pow_right (by decide) hr
    have e : rd (x :: s) ((0 : Nat) : Int) = x := rfl
    rw [e, List.set_cons_zero, num_cons hx]
    have hy : (0 : Int) ≤ ((x.toNat ^^^ 2 ^ r : Nat) : Int) ∧ ((x.toNat ^^^ 2 ^ r : Nat) : Int) < 256 := by
      have := Nat.xor_lt_two_pow h8 hr8
      omega
    rw [num_cons hy, Int.toNat_natCast, Nat.mul_zero, Nat.zero_add, Nat.xor_assoc]
  | x :: s, q + 1, r, hb, hq, hr => by
    have hx := (bytes_cons.1 hb).1
    have e : rd (x :: s) ((q + 1 : Nat) : Int) = rd s q := by simp [rd]
    rw [e, List.set_cons_succ, num_cons hx, num_set s q r (bytes_cons.1 hb).2 (by simpa using hq) hr, num_cons hx]
    have e2 : 2 ^ 8 * (num s ^^^ 2 ^ (8 * q + r)) = 2 ^ 8 * num s ^^^ 2 ^ (8 * (q + 1) + r) := by
      have h1 := Nat.shiftLeft_xor_distrib (a := num s) (b := 2 ^ (8 * q + r)) (i := 8)
      rw [Nat.shiftLeft_eq, Nat.shiftLeft_eq, Nat.shiftLeft_eq, ← Nat.pow_add] at h1
      rw [Nat.mul_comm, h1, Nat.mul_comm, show 8 * q + r + 8 = 8 * (q + 1) + r from by omega]
    rw [e2, Nat.xor_assoc, Nat.xor_comm (2 ^ (8 * (q + 1) + r)), ← Nat.xor_assoc]
theorem set_bytes {s : List Int} {q : Nat} {y : Int} (hb : Bytes s) (hy : 0 ≤ y ∧ y < 256) : Bytes (s.set q y) := fun x hx => by
  rcases List.mem_or_eq_of_mem_set hx with h | h
  · exact hb x h
  · rw [h]; exact hy
theorem pow_mul_xor (at_ a b : Nat) : 2 ^ at_ * (a ^^^ b) = 2 ^ at_ * a ^^^ 2 ^ at_ * b := by
  have h1 := Nat.shiftLeft_xor_distrib (a := a) (b := b) (i := at_)
  rw [Nat.shiftLeft_eq, Nat.shiftLeft_eq, Nat.shiftLeft_eq] at h1
  rw [Nat.mul_comm, h1, Nat.mul_comm, Nat.mul_comm b]
theorem turned_open {l s : List Int} (hl : Bytes l) (hs : Bytes s) (hlen : s.length = l.length + 4) (at_ B : Nat) (hB : B < 2 ^ 32) (hn : num s = num (sealB l) ^^^ 2 ^ at_ * B)
    (hin : 32 ≤ at_ ∧ at_ ≤ 8 * s.length ∨ 2 ^ at_ * B < 2 ^ 32) : openB s = if B = 0 then (l, 0) else ((openB s).1, 6) := by
  have hp := num_append (putB ((sumN l : Nat) : Int) 4) l
  have hs2 := seal_bytes hl
  by_cases hB0 : B = 0
  · rw [if_pos hB0]
    rw [hB0, Nat.mul_zero, Nat.xor_zero] at hn
    rw [num_inj s (sealB l) hs hs2 (by rw [hlen, seal_length]) hn, open_seal hl]
  rw [if_neg hB0]
  have h4s : (s.take 4).length = 4 := by simp; omega
  have esp : num s = 2 ^ 32 * num (s.drop 4) + num (s.take 4) := by
    have := num_append (s.take 4) (s.drop 4)
    rwa [List.take_append_drop, h4s] at this
  have t4 := num_lt (s.take 4) (bytes_take hs 4)
  rw [h4s] at t4
  have p4 := num_lt (putB ((sumN l : Nat) : Int) 4) (putB_bytes _ _)
  rw [putB_length] at p4 hp
  have hsl : num (sealB l) = 2 ^ 32 * num l + num (putB ((sumN l : Nat) : Int) 4) := hp
  have hne : getB (s.take 4) ≠ ((sumN (s.drop 4) : Nat) : Int) := by
    intro e
    have hsum := sumN_lt (bytes_drop hs 4)
    have hput : s.take 4 = putB ((sumN (s.drop 4) : Nat) : Int) 4 := by rw [← e, putB_getB 4 _ h4s (bytes_take hs 4)]
    have hm := congrArg (fun z => z % 2 ^ 32) hn
    have hd := congrArg (fun z => z / 2 ^ 32) hn
    simp only [Nat.xor_mod_two_pow, Nat.xor_div_two_pow] at hm hd
    have m1 : num s % 2 ^ 32 = num (s.take 4) := by rw [esp, Nat.mul_add_mod, Nat.mod_eq_of_lt t4]
    have m2 : num (sealB l) % 2 ^ 32 = num (putB ((sumN l : Nat) : Int) 4) := by rw [hsl, Nat.mul_add_mod, Nat.mod_eq_of_lt p4]
    have d1 : num s / 2 ^ 32 = num (s.drop 4) := by rw [esp, Nat.mul_add_div (by decide), Nat.div_eq_of_lt t4, Nat.add_zero]
    have d2 : num (sealB l) / 2 ^ 32 = num l := by rw [hsl, Nat.mul_add_div (by decide), Nat.div_eq_of_lt p4, Nat.add_zero]
    rw [m1, m2] at hm
    rw [d1, d2] at hd
    have hdl : (s.drop 4).length = l.length := by simp; omega
    rcases hin with ⟨h1, h2⟩ | h1
    · have e3 : 2 ^ at_ * B = 2 ^ 32 * (2 ^ (at_ - 32) * B) := by rw [← Nat.mul_assoc, ← Nat.pow_add, show 32 + (at_ - 32) = at_ from by omega]
      rw [e3, Nat.mul_mod_right, Nat.xor_zero] at hm
      rw [e3, Nat.mul_div_cancel_left _ (by decide)] at hd
      have hcr := crc_burst (l := l) (m := s.drop 4) 4294967295 (at_ - 32) B hl (bytes_drop hs 4) hdl hB hB0 (by omega) hd
      have hpq : s.take 4 = putB ((sumN l : Nat) : Int) 4 := num_inj _ _ (bytes_take hs 4) (putB_bytes _ _) (by rw [h4s, putB_length]) hm
      have h5 := putB_inj (hput.symm.trans hpq)
      have hl5 := sumN_lt hl
      have h6 : sumN (s.drop 4) = sumN l := by omega
      exact hcr (sumN_inj h6)
    · rw [Nat.div_eq_of_lt h1, Nat.xor_zero] at hd
      have hpq : s.drop 4 = l := num_inj _ _ (bytes_drop hs 4) hl hdl hd
      rw [hput, hpq, Nat.mod_eq_of_lt h1] at hm
      have h7 : 2 ^ at_ * B = 0 := by
        have h8 := congrArg (fun z => num (putB ((sumN l : Nat) : Int) 4) ^^^ z) hm
        simp only [← Nat.xor_assoc, Nat.xor_self, Nat.zero_xor] at h8
        exact h8.symm
      have hpos : 0 < 2 ^ at_ := Nat.pow_pos (by decide)
      rcases Nat.mul_eq_zero.1 h7 with h9 | h9
      · omega
      · exact hB0 h9
  unfold openB
  rw [if_neg (by omega), if_neg hne]
theorem t_sum (a i : Nat) (h : a + i ≤ 40000) : wrap64 ((a : Int) + (i : Int)) = ((a + i : Nat) : Int) := by rw [wrap64_id (by omega) (by omega)]; omega
theorem t_div (n : Nat) : Int.tdiv (n : Int) 8 = ((n / 8 : Nat) : Int) := by rw [Int.tdiv_eq_ediv_of_nonneg (by omega)]; omega
theorem t_mod (n : Nat) : Int.tmod (n : Int) 8 = ((n % 8 : Nat) : Int) := by rw [Int.tmod_eq_emod_of_nonneg (by omega)]; omega
theorem t_wrap (n : Nat) (h : n ≤ 40000) : wrap64 (n : Int) = (n : Int) := wrap64_id (by omega) (by omega)
theorem t_shr (t i : Nat) (h : i ≤ 32) : shr .u32 (t : Int) (i : Int) = ((t / 2 ^ i : Nat) : Int) := by
  unfold shr
  rw [show min ((i : Int)).toNat IntKind.u32.bits = i from by have : IntKind.u32.bits = 32 := rfl; omega]
  simp
theorem t_shl (r : Nat) (hr : r < 8) : shl .u8 1 (r : Int) = ((2 ^ r : Nat) : Int) := by
  unfold shl
  rw [show min ((r : Int)).toNat IntKind.u8.bits = r from by have : IntKind.u8.bits = 8 := rfl; omega, Int.one_mul]
  have h8 : 2 ^ r < 2 ^ 8 := Nat.pow_lt_pow_right (by decide) hr
  rw [show (2 : Int) ^ r = ((2 ^ r : Nat) : Int) from by simp]
  exact wraps_u8 _ (Int.natCast_nonneg _) (by exact_mod_cast h8)
theorem t_xor {s : List Int} (hs : Bytes s) (q : Int) (r : Nat) (hr : r < 8) : Go.bits .xor .u8 (rd s q) ((2 ^ r : Nat) : Int) = (((rd s q).toNat ^^^ 2 ^ r : Nat) : Int) ∧ (0 : Int) ≤ (((rd s q).toNat ^^^ 2 ^ r : Nat) : Int) ∧ (((rd s q).toNat ^^^ 2 ^ r : Nat) : Int) < 256 := by
  have hx8 := rd_byte hs q
  have hx : (rd s q).toNat < 2 ^ 8 := by omega
  have hp : 2 ^ r < 2 ^ 8 := Nat.pow_lt_pow_right (by decide) hr
  have h1 := xor8 (rd s q).toNat (2 ^ r) hx hp
  rw [Int.toNat_of_nonneg hx8.1] at h1
  have h2 := Nat.xor_lt_two_pow hx hp
  exact ⟨h1, Int.natCast_nonneg _, by omega⟩
end Go.Proofs.Ytandeendeoempaa.Trn
