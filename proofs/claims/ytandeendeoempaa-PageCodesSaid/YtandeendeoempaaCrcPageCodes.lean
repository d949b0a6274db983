/- A checksum of 32 bits as plain numbers: bit steps, how they part over a sum of bits, and that no change within 32 bits in a row is lost. -/
import Derived.Test.YtandeendeoempaaBase
namespace Go.Proofs.Ytandeendeoempaa.Crc
open Go.RowKit Go.Proofs.Ytandeendeoempaa.Base
def step (c : Nat) : Nat := if c % 2 = 1 then c / 2 ^^^ 2197175160 else c / 2
def steps : Nat → Nat → Nat
  | 0, c => c
  | n + 1, c => steps n (step c)
theorem xor_move (a b p : Nat) : (a ^^^ p) ^^^ (b ^^^ p) = a ^^^ b := by
  rw [Nat.xor_comm b p, Nat.xor_assoc, ← Nat.xor_assoc p p b, Nat.xor_self, Nat.zero_xor]
theorem xor_right (a b p : Nat) : a ^^^ (b ^^^ p) = a ^^^ b ^^^ p := (Nat.xor_assoc _ _ _).symm
theorem xor_mid (a b p : Nat) : (a ^^^ p) ^^^ b = a ^^^ b ^^^ p := by rw [Nat.xor_assoc, Nat.xor_comm p b, ← Nat.xor_assoc]
theorem step_xor (a b : Nat) : step (a ^^^ b) = step a ^^^ step b := by
  have h := @Nat.xor_mod_two_eq_one a b
  unfold step
  rw [Nat.xor_div_two]
  rcases Nat.mod_two_eq_zero_or_one a with ha | ha <;> rcases Nat.mod_two_eq_zero_or_one b with hb | hb
  · rw [if_neg (by rw [h]; simp [ha, hb]), if_neg (by omega), if_neg (by omega)]
  · rw [if_pos (by rw [h]; simp [ha, hb]), if_neg (by omega), if_pos hb, xor_right]
  · rw [if_pos (by rw [h]; simp [ha, hb]), if_pos ha, if_neg (by omega), xor_mid]
  · rw [if_neg (by rw [h]; simp [ha, hb]), if_pos ha, if_pos hb, xor_move]
theorem steps_xor : ∀ (n a b : Nat), steps n (a ^^^ b) = steps n a ^^^ steps n b
  | 0, _, _ => rfl
  | n + 1, a, b => by rw [steps, steps, steps, step_xor, steps_xor n]
theorem step_double (y : Nat) : step (2 * y) = y := by
  unfold step
  rw [if_neg (by omega)]
  omega
theorem steps_shift : ∀ (j y : Nat), steps j (2 ^ j * y) = y
  | 0, y => by simp [steps]
  | j + 1, y => by
    have e : 2 ^ (j + 1) * y = 2 * (2 ^ j * y) := by rw [Nat.pow_succ, Nat.mul_comm (2 ^ j) 2, Nat.mul_assoc]
    rw [steps, e, step_double, steps_shift j y]
theorem steps_add : ∀ (a b c : Nat), steps (a + b) c = steps b (steps a c)
  | 0, b, c => by rw [Nat.zero_add]; rfl
  | a + 1, b, c => by rw [Nat.add_right_comm, steps, steps, steps_add a b]
theorem step_lt {c : Nat} (h : c < 2 ^ 32) : step c < 2 ^ 32 := by
  unfold step
  split
  · exact Nat.xor_lt_two_pow (by omega) (by decide)
  · omega
theorem steps_lt : ∀ (n : Nat) {c : Nat}, c < 2 ^ 32 → steps n c < 2 ^ 32
  | 0, _, h => h
  | n + 1, _, h => steps_lt n (step_lt h)
def tab (r : Nat) : Nat := (if r % 2 = 1 then 274646895 else 0) ^^^ (if r / 2 % 2 = 1 then 549293790 else 0) ^^^ (if r / 4 % 2 = 1 then 1098587580 else 0) ^^^ (if r / 8 % 2 = 1 then 2197175160 else 0)
theorem steps4_low : ∀ r, r < 16 → steps 4 r = tab r := by decide
theorem steps_one (n c : Nat) : steps (n + 1) c = steps n (step c) := rfl
theorem step_def (c : Nat) : step c = if c % 2 = 1 then c / 2 ^^^ 2197175160 else c / 2 := rfl
attribute [irreducible] step steps
theorem xor_low (i a b : Nat) (h : b < 2 ^ i) : 2 ^ i * a ^^^ b = 2 ^ i * a + b := by
  have hp : 0 < 2 ^ i := Nat.pow_pos (by decide)
  have e1 : (2 ^ i * a ^^^ b) % 2 ^ i = b := by
    rw [Nat.xor_mod_two_pow, Nat.mul_mod_right, Nat.zero_xor, Nat.mod_eq_of_lt h]
  have e2 : (2 ^ i * a ^^^ b) / 2 ^ i = a := by
    rw [Nat.xor_div_two_pow, Nat.mul_div_cancel_left _ hp, Nat.div_eq_of_lt h, Nat.xor_zero]
  have := Nat.div_add_mod (2 ^ i * a ^^^ b) (2 ^ i)
  rw [e1, e2] at this
  exact this.symm
def crc (c : Nat) : List Int → Nat
  | [] => c
  | x :: l => crc (steps 8 (c ^^^ x.toNat)) l
theorem crc_nil (c : Nat) : crc c [] = c := rfl
theorem crc_cons (c : Nat) (x : Int) (l : List Int) : crc c (x :: l) = crc (steps 8 (c ^^^ x.toNat)) l := rfl
theorem steps_none (c : Nat) : steps 0 c = c := by unfold steps; rfl
theorem crc_append : ∀ (l m : List Int) (c : Nat), crc c (l ++ m) = crc (crc c l) m
  | [], _, _ => rfl
  | x :: l, m, c => by rw [List.cons_append, crc_cons, crc_cons, crc_append l m]
theorem crc_lt : ∀ (l : List Int) (c : Nat), Bytes l → c < 2 ^ 32 → crc c l < 2 ^ 32
  | [], _, _, h => h
  | x :: l, c, hb, h => by rw [crc_cons]; exact crc_lt l _ (bytes_cons.1 hb).2 (steps_lt 8 (Nat.xor_lt_two_pow h (by have := (bytes_cons.1 hb).1; omega)))
def sumN (l : List Int) : Nat := crc 4294967295 l ^^^ 4294967295
theorem sumN_lt {l : List Int} (h : Bytes l) : sumN l < 2 ^ 32 := Nat.xor_lt_two_pow (crc_lt l _ h (by decide)) (by decide)
theorem wraps_u32 (n : Int) (h₀ : 0 ≤ n) (h₁ : n < 2 ^ 32) : IntKind.u32.wrap n = n := by rw [IntKind.wrap_u32]; omega
theorem xor_nat (k : IntKind) (j : Nat) (hj : j ≤ k.bits) (hk : ∀ n : Int, 0 ≤ n → n < 2 ^ j → k.wrap n = n) (a b : Nat) (ha : a < 2 ^ j) (hb : b < 2 ^ j) : Go.bits .xor k a b = ((a ^^^ b : Nat) : Int) := by
  have hp : 2 ^ j ≤ 2 ^ k.bits := Nat.pow_le_pow_right (by decide) hj
  have ha' : a % 2 ^ k.bits = a := Nat.mod_eq_of_lt (Nat.lt_of_lt_of_le ha hp)
  have hb' : b % 2 ^ k.bits = b := Nat.mod_eq_of_lt (Nat.lt_of_lt_of_le hb hp)
  have cast : ∀ n : Nat, n < 2 ^ j → ((n : Nat) : Int) < 2 ^ j := fun n h => by exact_mod_cast h
  simp only [Go.bits, BitVec.ofInt_natCast, BitVec.toNat_xor, BitVec.toNat_ofNat, ha', hb']
  exact hk _ (Int.natCast_nonneg _) (cast _ (Nat.xor_lt_two_pow ha hb))
theorem xor32 (a b : Nat) (ha : a < 2 ^ 32) (hb : b < 2 ^ 32) : Go.bits .xor .u32 a b = ((a ^^^ b : Nat) : Int) := xor_nat .u32 32 (by decide) wraps_u32 a b ha hb
theorem and15 (a : Nat) (ha : a < 2 ^ 32) : Go.bits .and .u32 (a : Int) 15 = ((a % 16 : Nat) : Int) := by
  have := bits_mask .u32 32 (by decide) wraps_u32 4 (by decide) (a : Int) (by omega) (by omega)
  simpa using this
theorem and1 (a : Nat) (ha : a < 2 ^ 32) : Go.bits .and .u32 (a : Int) 1 = ((a % 2 : Nat) : Int) := by
  have := bits_mask .u32 32 (by decide) wraps_u32 1 (by decide) (a : Int) (by omega) (by omega)
  simpa using this
end Go.Proofs.Ytandeendeoempaa.Crc
