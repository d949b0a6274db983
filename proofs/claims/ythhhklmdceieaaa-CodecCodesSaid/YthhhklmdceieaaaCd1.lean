/- A part of the proof of the seat's rows, said of the kit's own model: octets.Put writes a number's bytes. Conditions: as each theorem says. -/
import Derived.Test.YthhhklmdceieaaaAbR
import Derived.Test.YthhhklmdceieaaaProg
import Derived.KernelRfl
namespace Go.Ab
open Go Go.Proofs
set_option linter.unusedVariables false
set_option maxRecDepth 100000
theorem e22 : elemT Try.prog 22 = some 5 := by kernel_rfl
theorem s5 : sizeT Try.prog 5 = some 1 := by kernel_rfl
theorem y5 : byteT Try.prog 5 = some 1 := by kernel_rfl
theorem h5 : hasZ Try.prog 5 = true := by kernel_rfl
theorem z5 : zeroT Try.prog 5 = some [.v (.int .u8 0)] := by kernel_rfl
theorem zz5 : (Try.prog.info? 5).bind (·.zero) = some (.int .u8 0) := by kernel_rfl
theorem ni22 : notInt Try.prog 22 = true := by kernel_rfl
/-- A number's bytes, the greatest first. -/
def be (n : Int) : Nat → List Int
  | 0 => []
  | k + 1 => (n / 256 ^ k) % 256 :: be n k
theorem be_len (n : Int) (k : Nat) : (be n k).length = k := by induction k <;> simp [be, *]
/-- Zeros, and behind them a number's last i bytes. -/
def zbe (n : Int) (k i : Nat) : List AV := List.replicate (k - i) (.v (.int .u8 0)) ++ (be n i).map fun x => .v (.int .u8 x)
theorem zbe_len (n : Int) (k i : Nat) (h : i ≤ k) : (zbe n k i).length = k := by simp [zbe, be_len]; omega
theorem zbe_set (n : Int) (k i : Nat) (h : i < k) : (zbe n k i).take (k - 1 - i) ++ [.v (.int .u8 ((n / 256 ^ i) % 256))] ++ (zbe n k i).drop (k - 1 - i + 1) = zbe n k (i + 1) := by
  unfold zbe
  have e : k - i = (k - 1 - i) + 1 := by omega
  rw [e, List.replicate_succ', show k - (i + 1) = k - 1 - i by omega]
  have hA : (List.replicate (k - 1 - i) (AV.v (.int .u8 0))).length = k - 1 - i := by simp
  generalize List.replicate (k - 1 - i) (AV.v (.int .u8 0)) = A at hA
  rw [show (A ++ [AV.v (.int .u8 0)] ++ (be n i).map fun x => AV.v (.int .u8 x)).take (k - 1 - i) = A by rw [List.append_assoc, ← hA, List.take_left']; rfl]
  rw [show (A ++ [AV.v (.int .u8 0)] ++ (be n i).map fun x => AV.v (.int .u8 x)).drop (k - 1 - i + 1) = (be n i).map fun x => AV.v (.int .u8 x) by rw [show k - 1 - i + 1 = (A ++ [AV.v (.int .u8 0)]).length by simp [hA], List.drop_left']; rfl]
  simp [be]
theorem wrap8 (n : Int) : IntKind.u8.wrap n = n % 256 := by
  unfold IntKind.wrap; simp [IntKind.bits, IntKind.signed]
theorem dropV_upd {f : Nat → Option (List AV)} {b : Nat} {x : List AV} (h : f b = none) : dropV (upd f b x) b = f := by
  funext k
  by_cases e : k = b
  · subst e; simp [dropV, h]
  · simp [dropV, upd, e]
theorem flat_map1 (l : List Int) (f : Int → AV) : (l.map fun x => [f x]).flatten = l.map f := by induction l <;> simp [*]
theorem shr8 (n : Int) (h0 : 0 ≤ n) (i : Nat) (h : i ≤ 8) : n.fdiv (2 ^ min (8 * (i : Int)).toNat 64) = n / 256 ^ i := by
  have e : min (8 * (i : Int)).toNat 64 = 8 * i := by omega
  rw [e, Int.fdiv_eq_ediv_of_nonneg _ (Int.pow_nonneg (by omega)), Int.pow_mul]
  rfl
theorem put_spec (σ : Sg) (n : Int) (k : Nat) (h0 : 0 ≤ n) (hn : n < 256 ^ k) (hk : 1 ≤ k) (hk' : k ≤ 8) : ACalls Try.prog 64 [.v (.int .u64 n), .v (.int .i64 k)] σ (fun r σ' => r = .tup [.row 1 (byts (be n k)), .v (.int .i64 0)] ∧ σ' = σ) := by
  refine q_body Try.func64 rfl (by kernel_rfl) Try.ntmps64 (Nat.le_of_ble_eq_true rfl) ?_
  have n64 : n < 18446744073709551616 := by
    have : (256 : Int) ^ k ≤ 256 ^ 8 := by
      have : (256 : Nat) ^ k ≤ 256 ^ 8 := Nat.pow_le_pow_right (by omega) hk'
      exact_mod_cast this
    have e : (256 : Int) ^ 8 = 18446744073709551616 := by decide
    omega
  have a1 : decide ((k : Int) < 1) = false := decide_eq_false (by omega)
  have a2 : decide ((k : Int) > 8) = false := decide_eq_false (by omega)
  repeat (first | (refine q_tn ?_) | (refine q_nil ?_) | (refine q_seq ?_) | (refine q_reg [] ?_) | (refine q_load (by rfl) (by rfl) (by rfl) (by rfl) (upd_same _ _ _) (by rfl) ?_) | (refine q_val (by rfl) (by rfl) (by rfl) (by rfl) ?_) | (refine q_blk ?_) | (refine q_skip ?_) | (refine q_ct (by rfl) ?_) | (refine q_cf (by rfl) ?_) | (refine q_not (by rfl) (by rfl) ?_) | (refine q_bn ?_) | (refine q_be ?_) | (refine q_exit ?_) | (refine q_te ?_) | (refine q_ret ?_) | (refine q_tr ?_) | (refine q_br ?_))
  rw [a1]
  repeat (first | (refine q_tn ?_) | (refine q_nil ?_) | (refine q_seq ?_) | (refine q_reg [] ?_) | (refine q_load (by rfl) (by rfl) (by rfl) (by rfl) (upd_same _ _ _) (by rfl) ?_) | (refine q_val (by rfl) (by rfl) (by rfl) (by rfl) ?_) | (refine q_blk ?_) | (refine q_skip ?_) | (refine q_ct (by rfl) ?_) | (refine q_cf (by rfl) ?_) | (refine q_not (by rfl) (by rfl) ?_) | (refine q_bn ?_) | (refine q_be ?_) | (refine q_exit ?_) | (refine q_te ?_) | (refine q_ret ?_) | (refine q_tr ?_) | (refine q_br ?_))
  rw [a2]
  repeat (first | (refine q_tn ?_) | (refine q_nil ?_) | (refine q_seq ?_) | (refine q_reg [] ?_) | (refine q_load (by rfl) (by rfl) (by rfl) (by rfl) (upd_same _ _ _) (by rfl) ?_) | (refine q_val (by rfl) (by rfl) (by rfl) (by rfl) ?_) | (refine q_blk ?_) | (refine q_skip ?_) | (refine q_ct (by rfl) ?_) | (refine q_cf (by rfl) ?_) | (refine q_not (by rfl) (by rfl) ?_) | (refine q_bn ?_) | (refine q_be ?_) | (refine q_exit ?_) | (refine q_te ?_) | (refine q_ret ?_) | (refine q_tr ?_) | (refine q_br ?_))
  have a3 : decide ((k : Int) < 8) = true → (n.fdiv (2 ^ min (IntKind.i64.wrap (8 * (k : Int))).toNat IntKind.u64.bits) != 0) = false := fun h => by
    have h : (k : Int) < 8 := of_decide_eq_true h
    have e : min (IntKind.i64.wrap (8 * (k : Int))).toNat IntKind.u64.bits = 8 * k := by
      rw [wrap_i64 _ (by omega) (by omega)]; show min _ 64 = _; omega
    rw [e, Int.fdiv_eq_ediv_of_nonneg _ (Int.pow_nonneg (by omega)), Int.pow_mul]
    have : n / (2 ^ 8) ^ k = 0 := Int.ediv_eq_zero_of_lt h0 hn
    rw [this]; rfl
  cases hc : decide ((k : Int) < 8)
  all_goals
    repeat (first | (refine q_tn ?_) | (refine q_nil ?_) | (refine q_seq ?_) | (refine q_reg [] ?_) | (refine q_load (by rfl) (by rfl) (by rfl) (by rfl) (upd_same _ _ _) (by rfl) ?_) | (refine q_val (by rfl) (by rfl) (by rfl) (by rfl) ?_) | (refine q_blk ?_) | (refine q_skip ?_) | (refine q_ct (by rfl) ?_) | (refine q_cf (by rfl) ?_) | (refine q_not (by rfl) (by rfl) ?_) | (refine q_bn ?_) | (refine q_be ?_) | (refine q_exit ?_) | (refine q_te ?_) | (refine q_ret ?_) | (refine q_tr ?_) | (refine q_br ?_))
    first | (refine q_shr (by rfl) (by rfl) (by rfl) (by rfl) (by rfl) (by rw [wrap_i64 _ (by omega) (by omega)]; omega) ?_; refine q_eq (congrArg (fun x => AV.v (.bool x)) (a3 hc)) (by rfl) (by rfl) (by rfl) (by rfl) ?_) | skip
    repeat (first | (refine q_tn ?_) | (refine q_nil ?_) | (refine q_seq ?_) | (refine q_reg [] ?_) | (refine q_load (by rfl) (by rfl) (by rfl) (by rfl) (upd_same _ _ _) (by rfl) ?_) | (refine q_val (by rfl) (by rfl) (by rfl) (by rfl) ?_) | (refine q_blk ?_) | (refine q_skip ?_) | (refine q_ct (by rfl) ?_) | (refine q_cf (by rfl) ?_) | (refine q_not (by rfl) (by rfl) ?_) | (refine q_bn ?_) | (refine q_be ?_) | (refine q_exit ?_) | (refine q_te ?_) | (refine q_ret ?_) | (refine q_tr ?_) | (refine q_br ?_))
    refine q_w (by rfl) (by rfl) (by rfl) (by rfl) ?_
    refine AO.make (n := k) (by_ := 1) rfl e22 s5 y5 zz5 rfl (by omega) (by omega) ?_
    intro b hb hb'
    replace hb : σ.vars b = none := hb
    clear hb'
    repeat (first | (refine q_tn ?_) | (refine q_nil ?_) | (refine q_seq ?_) | (refine q_reg [] ?_) | (refine q_load (by rfl) (by rfl) (by rfl) (by rfl) (upd_same _ _ _) (by rfl) ?_) | (refine q_val (by rfl) (by rfl) (by rfl) (by rfl) ?_) | (refine q_blk ?_) | (refine q_skip ?_) | (refine q_ct (by rfl) ?_) | (refine q_cf (by rfl) ?_) | (refine q_not (by rfl) (by rfl) ?_) | (refine q_bn ?_) | (refine q_be ?_) | (refine q_exit ?_) | (refine q_te ?_) | (refine q_ret ?_) | (refine q_tr ?_) | (refine q_br ?_))
    refine q_loop (fun j s => ∃ i : Nat, i + j = k ∧ s = ⟨42, frL [(0, .v (.int .u64 n)), (1, .v (.int .i64 k)), (6, .v (.slice (some ⟨b, 0, none⟩) k k)), (25, .v (.int .i64 k)), (26, .v (.int .i64 i))], ⟨upd σ.vars b (zbe n k i), σ.tips⟩⟩) (n := k)
      (s0 := ⟨42, frL [(0, .v (.int .u64 n)), (1, .v (.int .i64 k)), (6, .v (.slice (some ⟨b, 0, none⟩) k k)), (25, .v (.int .i64 k)), (26, .v (.int .i64 (0 : Nat)))], ⟨upd σ.vars b (zbe n k 0), σ.tips⟩⟩)
      (Sub.mk' rfl ⟨⟨_, rfl, AV.le_refl _⟩, ⟨_, rfl, AV.le_refl _⟩, ⟨_, rfl, AV.le_refl _⟩, ⟨_, rfl, AV.le_refl _⟩, ⟨_, rfl, AV.le_refl _⟩, trivial⟩ (SgLe.of_eq (by simp [zbe, be]; rfl))) ⟨0, by omega, rfl⟩ ?_
    rintro j s ⟨i, hij, rfl⟩
    repeat (first | (refine q_tn ?_) | (refine q_nil ?_) | (refine q_seq ?_) | (refine q_reg [] ?_) | (refine q_load (by rfl) (by rfl) (by rfl) (by rfl) (upd_same _ _ _) (by rfl) ?_) | (refine q_val (by rfl) (by rfl) (by rfl) (by rfl) ?_) | (refine q_blk ?_) | (refine q_skip ?_) | (refine q_ct (by rfl) ?_) | (refine q_cf (by rfl) ?_) | (refine q_not (by rfl) (by rfl) ?_) | (refine q_bn ?_) | (refine q_be ?_) | (refine q_exit ?_) | (refine q_te ?_) | (refine q_ret ?_) | (refine q_tr ?_) | (refine q_br ?_))
    refine q_if rfl ?_ ?_
    · intro hlt
      have hlt : (i : Int) < k := of_decide_eq_true hlt
      repeat (first | (refine q_tn ?_) | (refine q_nil ?_) | (refine q_seq ?_) | (refine q_reg [] ?_) | (refine q_load (by rfl) (by rfl) (by rfl) (by rfl) (upd_same _ _ _) (by rfl) ?_) | (refine q_val (by rfl) (by rfl) (by rfl) (by rfl) ?_) | (refine q_blk ?_) | (refine q_skip ?_) | (refine q_ct (by rfl) ?_) | (refine q_cf (by rfl) ?_) | (refine q_not (by rfl) (by rfl) ?_) | (refine q_bn ?_) | (refine q_be ?_) | (refine q_exit ?_) | (refine q_te ?_) | (refine q_ret ?_) | (refine q_tr ?_) | (refine q_br ?_))
      refine q_shr (by rfl) (by rfl) (by rfl) (by rfl) (by rfl) (by rw [wrap_i64 _ (by omega) (by omega)]; omega) ?_
      repeat (first | (refine q_tn ?_) | (refine q_nil ?_) | (refine q_seq ?_) | (refine q_reg [] ?_) | (refine q_load (by rfl) (by rfl) (by rfl) (by rfl) (upd_same _ _ _) (by rfl) ?_) | (refine q_val (by rfl) (by rfl) (by rfl) (by rfl) ?_) | (refine q_blk ?_) | (refine q_skip ?_) | (refine q_ct (by rfl) ?_) | (refine q_cf (by rfl) ?_) | (refine q_not (by rfl) (by rfl) ?_) | (refine q_bn ?_) | (refine q_be ?_) | (refine q_exit ?_) | (refine q_te ?_) | (refine q_ret ?_) | (refine q_tr ?_) | (refine q_br ?_))
      refine q_idv (j := k - 1 - i) (by rfl) (by rfl) (by rfl) e22 s5 (by rfl) (by rfl) (by rw [wrap_i64 (k - 1) (by omega) (by omega), wrap_i64 _ (by omega) (by omega)]; omega) (by omega) ?_
      repeat (first | (refine q_tn ?_) | (refine q_nil ?_) | (refine q_seq ?_) | (refine q_reg [] ?_) | (refine q_load (by rfl) (by rfl) (by rfl) (by rfl) (upd_same _ _ _) (by rfl) ?_) | (refine q_val (by rfl) (by rfl) (by rfl) (by rfl) ?_) | (refine q_blk ?_) | (refine q_skip ?_) | (refine q_ct (by rfl) ?_) | (refine q_cf (by rfl) ?_) | (refine q_not (by rfl) (by rfl) ?_) | (refine q_bn ?_) | (refine q_be ?_) | (refine q_exit ?_) | (refine q_te ?_) | (refine q_ret ?_) | (refine q_tr ?_) | (refine q_br ?_))
      refine q_store (b := b) (off := 0 + (k - 1 - i) * 1) (c0 := zbe n k i) (by rfl) (by rfl) (by rfl) (by rfl) (by rfl) (by rfl) s5 (by rfl) (upd_same _ _ _) (by rw [zbe_len _ _ _ (by omega)]; omega) ?_
      repeat (first | (refine q_tn ?_) | (refine q_nil ?_) | (refine q_seq ?_) | (refine q_reg [] ?_) | (refine q_load (by rfl) (by rfl) (by rfl) (by rfl) (upd_same _ _ _) (by rfl) ?_) | (refine q_val (by rfl) (by rfl) (by rfl) (by rfl) ?_) | (refine q_blk ?_) | (refine q_skip ?_) | (refine q_ct (by rfl) ?_) | (refine q_cf (by rfl) ?_) | (refine q_not (by rfl) (by rfl) ?_) | (refine q_bn ?_) | (refine q_be ?_) | (refine q_exit ?_) | (refine q_te ?_) | (refine q_ret ?_) | (refine q_tr ?_) | (refine q_br ?_))
      refine ⟨j - 1, ⟨42, frL [(0, .v (.int .u64 n)), (1, .v (.int .i64 k)), (6, .v (.slice (some ⟨b, 0, none⟩) k k)), (25, .v (.int .i64 k)), (26, .v (.int .i64 (i + 1 : Nat)))], ⟨upd σ.vars b (zbe n k (i + 1)), σ.tips⟩⟩, by omega,
        Sub.mk' rfl ⟨⟨_, rfl, AV.le_refl _⟩, ⟨_, rfl, AV.le_refl _⟩, ⟨_, rfl, AV.le_refl _⟩, ⟨_, rfl, AV.le_refl _⟩, ⟨_, rfl, AV.le_of_eq (by rw [wrap_i64 _ (by omega) (by omega)]; rfl)⟩, trivial⟩ (SgLe.of_eq ?_), i + 1, by omega, rfl⟩
      show (⟨upd (upd σ.vars b (zbe n k i)) b ((zbe n k i).take (0 + (k - 1 - i) * 1) ++ [AV.v (.int .u8 (IntKind.u8.wrap (n.fdiv (2 ^ min (IntKind.i64.wrap (8 * (i : Int))).toNat IntKind.u64.bits))))] ++ (zbe n k i).drop (0 + (k - 1 - i) * 1 + 1)), σ.tips⟩ : Sg) = _
      rw [upd_upd, ← zbe_set n k i (by omega), wrap_i64 _ (by omega) (by omega)]
      have e := shr8 n h0 i (by omega)
      rw [show IntKind.u64.bits = 64 from rfl, e, wrap8 _, Nat.zero_add, Nat.mul_one]
    · intro hge
      have hge : ¬ ((i : Int) < k) := of_decide_eq_false hge
      obtain rfl : i = k := by omega
      repeat (first | (refine q_exit ?_) | (refine q_te ?_) | (refine q_be ?_) | (refine q_tn ?_) | (refine q_skip ?_))
      refine q_freeze (b := b) (t := 6) (es := byts (be n i)) (sz := 1) rfl (upd_same _ _ _) ?_ (by simp [be_len]) ?_ (Nat.le_refl _) ?_
      · simp [zbe, byts, flat_map1]
      · intro e he; simp [byts] at he; obtain ⟨x, _, rfl⟩ := he; rfl
      repeat (first | (refine q_tn ?_) | (refine q_nil ?_) | (refine q_seq ?_) | (refine q_reg [] ?_) | (refine q_load (by rfl) (by rfl) (by rfl) (by rfl) (upd_same _ _ _) (by rfl) ?_) | (refine q_val (by rfl) (by rfl) (by rfl) (by rfl) ?_) | (refine q_blk ?_) | (refine q_skip ?_) | (refine q_ct (by rfl) ?_) | (refine q_cf (by rfl) ?_) | (refine q_not (by rfl) (by rfl) ?_) | (refine q_bn ?_) | (refine q_be ?_) | (refine q_exit ?_) | (refine q_te ?_) | (refine q_ret ?_) | (refine q_tr ?_) | (refine q_br ?_))
      refine q_er rfl (AV.le_refl _) (SgLe.of_eq ?_) ⟨rfl, rfl⟩
      show (⟨dropV (upd σ.vars b (zbe n i i)) b, σ.tips⟩ : Sg) = σ
      rw [dropV_upd hb]
end Go.Ab
