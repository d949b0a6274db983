/- A sealed row of which bits are turned, within 32 in a row of what is sealed, or within the sum, is none: the plain statement that is left of the law SumTurned, for all bytes, places and turns. -/
import Derived.Test.YtmaoppljldllfaaOct
import Derived.Test.YtmaoppljldllfaaCrc
import Derived.Test.YtmaoppljldllfaaSum
import Derived.Test.YtmaoppljldllfaaPSx18
namespace Go.Proofs.Ytmaoppljldllfaa.Pure
open Go.RowKit Go.Proofs.YtmaoppljldllfaaW.PrintWords Go.Proofs.YtmaoppljldllfaaW.PrintLast Go.Proofs.YtmaoppljldllfaaW.PrintMore Go.Proofs.Ytmaoppljldllfaa.PS Go.Proofs.Ytmaoppljldllfaa.Base Go.Proofs.Ytmaoppljldllfaa.Oct Go.Proofs.Ytmaoppljldllfaa.Crc Go.Proofs.Ytmaoppljldllfaa.Sum
theorem low_succ (t i : Nat) : t % 2 ^ (i + 1) = t % 2 ^ i + 2 ^ i * (t / 2 ^ i % 2) := by
  rw [Nat.pow_succ, Nat.mod_mul]
theorem low_xor (t i : Nat) (h : t / 2 ^ i % 2 = 1) : t % 2 ^ (i + 1) = t % 2 ^ i ^^^ 2 ^ i := by
  have hp : 0 < 2 ^ i := Nat.pow_pos (by decide)
  have e := xor_low i 1 (t % 2 ^ i) (Nat.mod_lt _ hp)
  rw [Nat.mul_one] at e
  rw [low_succ, h, Nat.mul_one, Nat.xor_comm, e, Nat.add_comm]
theorem low_same (t i : Nat) (h : ¬ t / 2 ^ i % 2 = 1) : t % 2 ^ (i + 1) = t % 2 ^ i := by
  rw [low_succ, show t / 2 ^ i % 2 = 0 from by omega, Nat.mul_zero, Nat.add_zero]
theorem num_set : ∀ (s : List Int) (q r : Nat), Bytes s → q < s.length → r < 8 → num (s.set q (((rd s q).toNat ^^^ 2 ^ r : Nat) : Int)) = num s ^^^ 2 ^ (8 * q + r)
  | [], _, _, _, h, _ => by simp at h
  | x :: s, 0, r, hb, _, hr => by
    have hx := (bytes_cons.1 hb).1
    have h8 : x.toNat < 2 ^ 8 := by omega
    have hr8 : 2 ^ r < 2 ^ 8 := Nat.pow_lt_pow_right (by decide) hr
    have e : rd (x :: s) ((0 : Nat) : Int) = x := rfl
    rw [e, List.set_cons_zero, num_cons hx]
    have hy : (0 : Int) ≤ ((x.toNat ^^^ 2 ^ r : Nat) : Int) ∧ ((x.toNat ^^^ 2 ^ r : Nat) : Int) < 256 := by
      have := Nat.xor_lt_two_pow h8 hr8
      omega
    rw [num_cons hy, Int.toNat_natCast, Nat.mul_zero, Nat.zero_add, Nat.xor_assoc]
  | x :: s, q + 1, r, hb, hq, hr => by
    have hx := (bytes_cons.1 hb).1
    have e : rd (x :: s) ((q + 1 : Nat) : Int) = rd s q := by simp [rd]
    rw [e, List.set_cons_succ, num_cons hx, num_set s q r (bytes_cons.1 hb).2 (by simpa using hq) hr, num_cons hx]
    have e2 : 2 ^ 8 * (num s ^^^ 2 ^ (8 * q + r)) = 2 ^ 8 * num s ^^^ 2 ^ (8 * (q + 1) + r) := by
      have h1 := Nat.shiftLeft_xor_distrib (a := num s) (b := 2 ^ (8 * q + r)) (i := 8)
      rw [Nat.shiftLeft_eq, Nat.shiftLeft_eq, Nat.shiftLeft_eq, ← Nat.pow_add] at h1
      rw [Nat.mul_comm, h1, Nat.mul_comm, show 8 * q + r + 8 = 8 * (q + 1) + r from by omega]
    rw [e2, Nat.xor_assoc, Nat.xor_comm (2 ^ (8 * (q + 1) + r)), ← Nat.xor_assoc]
theorem set_bytes {s : List Int} {q : Nat} {y : Int} (hb : Bytes s) (hy : 0 ≤ y ∧ y < 256) : Bytes (s.set q y) := fun x hx => by
  rcases List.mem_or_eq_of_mem_set hx with h | h
  · exact hb x h
  · rw [h]; exact hy
theorem pow_mul_xor (at_ a b : Nat) : 2 ^ at_ * (a ^^^ b) = 2 ^ at_ * a ^^^ 2 ^ at_ * b := by
  have h1 := Nat.shiftLeft_xor_distrib (a := a) (b := b) (i := at_)
  rw [Nat.shiftLeft_eq, Nat.shiftLeft_eq, Nat.shiftLeft_eq] at h1
  rw [Nat.mul_comm, h1, Nat.mul_comm, Nat.mul_comm b]
/-- What is opened behind the turning. -/
theorem turned_open {l s : List Int} (hl : Bytes l) (hs : Bytes s) (hlen : s.length = l.length + 4) (at_ B : Nat) (hB : B < 2 ^ 32) (hn : num s = num (sealB l) ^^^ 2 ^ at_ * B)
    (hin : 32 ≤ at_ ∧ at_ ≤ 8 * s.length ∨ 2 ^ at_ * B < 2 ^ 32) : openB s = if B = 0 then (l, 0) else ((openB s).1, 6) := by
  have hp := num_append (putB ((sumN l : Nat) : Int) 4) l
  have hs2 := seal_bytes hl
  by_cases hB0 : B = 0
  · rw [if_pos hB0]
    rw [hB0, Nat.mul_zero, Nat.xor_zero] at hn
    rw [num_inj s (sealB l) hs hs2 (by rw [hlen, seal_length]) hn, open_seal hl]
  rw [if_neg hB0]
  have h4s : (s.take 4).length = 4 := by simp; omega
  have esp : num s = 2 ^ 32 * num (s.drop 4) + num (s.take 4) := by
    have := num_append (s.take 4) (s.drop 4)
    rwa [List.take_append_drop, h4s] at this
  have t4 := num_lt (s.take 4) (bytes_take hs 4)
  rw [h4s] at t4
  have p4 := num_lt (putB ((sumN l : Nat) : Int) 4) (putB_bytes _ _)
  rw [putB_length] at p4 hp
  have hsl : num (sealB l) = 2 ^ 32 * num l + num (putB ((sumN l : Nat) : Int) 4) := hp
  have hne : getB (s.take 4) ≠ ((sumN (s.drop 4) : Nat) : Int) := by
    intro e
    have hsum := sumN_lt (bytes_drop hs 4)
    have hput : s.take 4 = putB ((sumN (s.drop 4) : Nat) : Int) 4 := by rw [← e, putB_getB 4 _ h4s (bytes_take hs 4)]
    have hm := congrArg (fun z => z % 2 ^ 32) hn
    have hd := congrArg (fun z => z / 2 ^ 32) hn
    simp only [Nat.xor_mod_two_pow, Nat.xor_div_two_pow] at hm hd
    have m1 : num s % 2 ^ 32 = num (s.take 4) := by rw [esp, Nat.mul_add_mod, Nat.mod_eq_of_lt t4]
    have m2 : num (sealB l) % 2 ^ 32 = num (putB ((sumN l : Nat) : Int) 4) := by rw [hsl, Nat.mul_add_mod, Nat.mod_eq_of_lt p4]
    have d1 : num s / 2 ^ 32 = num (s.drop 4) := by rw [esp, Nat.mul_add_div (by decide), Nat.div_eq_of_lt t4, Nat.add_zero]
    have d2 : num (sealB l) / 2 ^ 32 = num l := by rw [hsl, Nat.mul_add_div (by decide), Nat.div_eq_of_lt p4, Nat.add_zero]
    rw [m1, m2] at hm
    rw [d1, d2] at hd
    have hdl : (s.drop 4).length = l.length := by simp; omega
    rcases hin with ⟨h1, h2⟩ | h1
    · have e3 : 2 ^ at_ * B = 2 ^ 32 * (2 ^ (at_ - 32) * B) := by rw [← Nat.mul_assoc, ← Nat.pow_add, show 32 + (at_ - 32) = at_ from by omega]
      rw [e3, Nat.mul_mod_right, Nat.xor_zero] at hm
      rw [e3, Nat.mul_div_cancel_left _ (by decide)] at hd
      have hcr := crc_burst (l := l) (m := s.drop 4) 4294967295 (at_ - 32) B hl (bytes_drop hs 4) hdl hB hB0 (by omega) hd
      have hpq : s.take 4 = putB ((sumN l : Nat) : Int) 4 := num_inj _ _ (bytes_take hs 4) (putB_bytes _ _) (by rw [h4s, putB_length]) hm
      have h5 := putB_inj (hput.symm.trans hpq)
      have hl5 := sumN_lt hl
      have h6 : sumN (s.drop 4) = sumN l := by omega
      exact hcr (sumN_inj h6)
    · rw [Nat.div_eq_of_lt h1, Nat.xor_zero] at hd
      have hpq : s.drop 4 = l := num_inj _ _ (bytes_drop hs 4) hl hdl hd
      rw [hput, hpq, Nat.mod_eq_of_lt h1] at hm
      have h7 : 2 ^ at_ * B = 0 := by
        have h8 := congrArg (fun z => num (putB ((sumN l : Nat) : Int) 4) ^^^ z) hm
        simp only [← Nat.xor_assoc, Nat.xor_self, Nat.zero_xor] at h8
        exact h8.symm
      have hpos : 0 < 2 ^ at_ := Nat.pow_pos (by decide)
      rcases Nat.mul_eq_zero.1 h7 with h9 | h9
      · omega
      · exact hB0 h9
  unfold openB
  rw [if_neg (by omega), if_neg hne]
theorem turn_end (l s : List Int) (hl : Bytes l) (hs : Bytes s) (hlen : s.length = l.length + 4) (hl2 : l.length ≤ 4096) (at_ B : Nat) (hB : B < 2 ^ 32) (hn : num s = num (sealB l) ^^^ 2 ^ at_ * B)
    (hin : 32 ≤ at_ ∧ at_ ≤ 8 * s.length ∨ 2 ^ at_ * B < 2 ^ 32) (x1 x2 x11 x13 : Int) (x12 : Bool) (hx : x12 = decide (B ≠ 0)) : Ev (fun k => terrierlaw02_SumTurned.j3 k x1 x2 s x11 x12 x13 false) true := by
  have ho := turned_open hl hs hlen at_ B hB hn hin
  refine Ev.step (fun k => by rw [terrierlaw02_SumTurned.j3]) (Ev.iteF (by decide) (Ev.bind (Open_ev s hs (by omega)) ?_))
  by_cases h0 : B = 0
  · rw [ho, if_pos h0, hx, h0]
    exact Ev.iteT rfl (Ev.now _)
  · rw [ho, if_neg h0, hx, decide_eq_true h0]
    exact Ev.iteT rfl (Ev.now _)
theorem t_sum (a i : Nat) (h : a + i ≤ 40000) : wrap64 ((a : Int) + (i : Int)) = ((a + i : Nat) : Int) := by rw [wrap64_id (by omega) (by omega)]; omega
theorem t_dif (a b : Nat) (h : b ≤ a) (h2 : a ≤ 40000) : wrap64 ((a : Int) - (b : Int)) = ((a - b : Nat) : Int) := by rw [wrap64_id (by omega) (by omega)]; omega
theorem t_div (n : Nat) : Int.tdiv (n : Int) 8 = ((n / 8 : Nat) : Int) := by rw [Int.tdiv_eq_ediv_of_nonneg (by omega)]; omega
theorem t_mod (n : Nat) : Int.tmod (n : Int) 8 = ((n % 8 : Nat) : Int) := by rw [Int.tmod_eq_emod_of_nonneg (by omega)]; omega
theorem t_wrap (n : Nat) (h : n ≤ 40000) : wrap64 (n : Int) = (n : Int) := wrap64_id (by omega) (by omega)
theorem t_lt (i a b : Nat) (h : a < b) (h2 : b ≤ 40000) : decide ((i : Int) < wrap64 ((b : Int) - (a : Int))) = decide (a + i < b) := by
  rw [t_dif b a (by omega) h2]
  exact decide_eq_decide.2 (by omega)
theorem t_shr (t i : Nat) (h : i ≤ 32) : shr .u32 (t : Int) (i : Int) = ((t / 2 ^ i : Nat) : Int) := by
  unfold shr
  rw [show min ((i : Int)).toNat IntKind.u32.bits = i from by have : IntKind.u32.bits = 32 := rfl; omega]
  simp
theorem t_shl (r : Nat) (hr : r < 8) : shl .u8 1 (r : Int) = ((2 ^ r : Nat) : Int) := by
  unfold shl
  rw [show min ((r : Int)).toNat IntKind.u8.bits = r from by have : IntKind.u8.bits = 8 := rfl; omega, Int.one_mul]
  have h8 : 2 ^ r < 2 ^ 8 := Nat.pow_lt_pow_right (by decide) hr
  rw [show (2 : Int) ^ r = ((2 ^ r : Nat) : Int) from by simp]
  exact wraps_u8 _ (Int.natCast_nonneg _) (by exact_mod_cast h8)
theorem t_xor {s : List Int} (hs : Bytes s) (q : Int) (r : Nat) (hr : r < 8) : Go.bits .xor .u8 (rd s q) ((2 ^ r : Nat) : Int) = (((rd s q).toNat ^^^ 2 ^ r : Nat) : Int) ∧ (0 : Int) ≤ (((rd s q).toNat ^^^ 2 ^ r : Nat) : Int) ∧ (((rd s q).toNat ^^^ 2 ^ r : Nat) : Int) < 256 := by
  have hx8 := rd_byte hs q
  have hx : (rd s q).toNat < 2 ^ 8 := by omega
  have hp : 2 ^ r < 2 ^ 8 := Nat.pow_lt_pow_right (by decide) hr
  have h1 := xor8 (rd s q).toNat (2 ^ r) hx hp
  rw [Int.toNat_of_nonneg hx8.1] at h1
  have h2 := Nat.xor_lt_two_pow hx hp
  exact ⟨h1, Int.natCast_nonneg _, by omega⟩
theorem t_in (at_ tt i t L : Nat) (hat : at_ < tt) (htt : 32 ≤ at_ ∧ tt = 8 * (L + 4) ∨ tt = 32) (hi : i = min 32 (tt - at_)) : 32 ≤ at_ ∧ at_ ≤ 8 * (L + 4) ∨ 2 ^ at_ * (t % 2 ^ i) < 2 ^ 32 := by
  rcases htt with ⟨h1, h2⟩ | h1
  · exact .inl ⟨h1, by omega⟩
  · refine .inr ?_
    have hp : 0 < 2 ^ at_ := Nat.pow_pos (by decide)
    have hp2 : 0 < 2 ^ i := Nat.pow_pos (by decide)
    have h2 : 2 ^ at_ * (t % 2 ^ i) < 2 ^ at_ * 2 ^ i := Nat.mul_lt_mul_of_pos_left (Nat.mod_lt _ hp2) hp
    have h3 : at_ + i ≤ 32 := by clear h2 hp hp2; omega
    rw [← Nat.pow_add] at h2
    exact Nat.lt_of_lt_of_le h2 (Nat.pow_le_pow_right (by decide) h3)
theorem t_pos (t i : Nat) (c : t / 2 ^ i % 2 = 1) : t % 2 ^ (i + 1) ≠ 0 := by
  rw [low_succ, c]
  have : 0 < 2 ^ i := Nat.pow_pos (by decide)
  omega
theorem t_place (n : Nat) : 8 * (n / 8) + n % 8 = n := by omega
theorem t_quot (at_ i tt L : Nat) (h : at_ + i < tt) (htt : tt ≤ 8 * (L + 4)) : (at_ + i) / 8 < L + 4 := by omega
theorem t_bounds (at_ tt L d i : Nat) (hat : at_ < tt) (hL : L ≤ 4096) (htt : 32 ≤ at_ ∧ tt = 8 * (L + 4) ∨ tt = 32) (hi : i + (d + 1) = min 32 (tt - at_)) : tt ≤ 32800 ∧ i < 32 ∧ at_ + i < tt ∧ tt ≤ 8 * (L + 4) ∧ (i + 1) + d = min 32 (tt - at_) := by
  refine ⟨by omega, by omega, by omega, by omega, by omega⟩
theorem turn_loop (l : List Int) (hl : Bytes l) (hl2 : l.length ≤ 4096) (t at_ tt : Nat) (ht : t < 2 ^ 32) (hat : at_ < tt) (htt : 32 ≤ at_ ∧ tt = 8 * (l.length + 4) ∨ tt = 32) : ∀ (d i : Nat) (s : List Int) (x12 : Bool), i + d = min 32 (tt - at_) →
    Bytes s → s.length = l.length + 4 → num s = num (sealB l) ^^^ 2 ^ at_ * (t % 2 ^ i) → x12 = decide (t % 2 ^ i ≠ 0) → Ev (fun k => terrierlaw02_SumTurned.l0 k (at_ : Int) (t : Int) s (tt : Int) x12 i) true
  | 0, i, s, x12, hi, hs, hlen, hn, hx => by
    have hB : t % 2 ^ i < 2 ^ 32 := Nat.lt_of_le_of_lt (Nat.mod_le _ _) ht
    have hin := t_in at_ tt i t l.length hat htt hi
    rw [← hlen] at hin
    have ht2 : tt ≤ 40000 := by clear hn hx hin hB; omega
    refine Ev.step (fun k => by rw [terrierlaw02_SumTurned.l0]) ?_
    by_cases c : (i : Int) < 32
    · have e : decide (at_ + i < tt) = false := decide_eq_false (by clear hn hx hin hB; omega)
      rw [t_lt i at_ tt hat ht2, e]
      exact Ev.iteT c (turn_end l s hl hs hlen hl2 at_ _ hB hn hin _ _ _ _ _ hx)
    · exact Ev.iteF c (turn_end l s hl hs hlen hl2 at_ _ hB hn hin _ _ _ _ _ hx)
  | d + 1, i, s, x12, hi, hs, hlen, hn, hx => by
    obtain ⟨ht2, hi32, hitt, ht8, hi'⟩ := t_bounds at_ tt l.length d i hat hl2 htt hi
    refine Ev.step (fun k => by rw [terrierlaw02_SumTurned.l0]) (Ev.iteT (by clear hn hx; omega) ?_)
    rw [t_lt i at_ tt hat (by clear hn hx; omega), decide_eq_true hitt]
    refine Ev.step (fun k => by rw [terrierlaw02_SumTurned.j3]) (Ev.iteT rfl (Ev.iteT (Int.natCast_nonneg _) ?_))
    have hd32 : t / 2 ^ i < 2 ^ 32 := Nat.lt_of_le_of_lt (Nat.div_le_self _ _) ht
    have ewi : wrap64 ((i : Int) + 1) = ((i + 1 : Nat) : Int) := wrapInc (by clear hn hx hd32; omega)
    rw [t_shr t i (by clear hn hx hd32; omega), and1 _ hd32, ewi]
    by_cases c : t / 2 ^ i % 2 = 1
    · have hq : (at_ + i) / 8 < s.length := by rw [hlen]; exact t_quot at_ i tt l.length hitt ht8
      have hr : (at_ + i) % 8 < 8 := Nat.mod_lt _ (by decide)
      obtain ⟨e6, hy⟩ := t_xor hs (((at_ + i) / 8 : Nat) : Int) ((at_ + i) % 8) hr
      refine Ev.iteT (by rw [c]; rfl) ?_
      rw [t_sum at_ i (by clear hn hx hd32 e6 hy; omega), t_div, t_mod, t_wrap _ (by clear hn hx hd32 e6 hy; omega), t_shl _ hr, e6, Int.toNat_natCast]
      refine Ev.iteT (Int.natCast_nonneg _) (Ev.iteT (by exact_mod_cast hq) (Ev.iteT (Int.natCast_nonneg _) ?_))
      refine turn_loop l hl hl2 t at_ tt ht hat htt d (i + 1) _ true hi' (set_bytes hs hy) (by rw [List.length_set, hlen]) ?_ ?_
      · rw [num_set s _ _ hs hq hr, hn, low_xor t i c, pow_mul_xor, Nat.xor_assoc, ← Nat.pow_add, t_place]
      · exact (decide_eq_true (t_pos t i c)).symm
    · refine Ev.iteF (by clear hn hx hd32; omega) ?_
      refine turn_loop l hl hl2 t at_ tt ht hat htt d (i + 1) s x12 hi' hs hlen ?_ ?_
      · rw [low_same t i c]; exact hn
      · rw [low_same t i c]; exact hx
theorem turn_from (l : List Int) (hl : Bytes l) (hl2 : l.length ≤ 4096) (a1 : Int) (t from_ tt : Nat) (ht : t < 2 ^ 32) (hle : from_ ≤ tt) (htt : from_ = 32 ∧ tt = 8 * (l.length + 4) ∨ from_ = 0 ∧ tt = 32) :
    Ev (fun k => terrierlaw02_SumTurned.j1 k a1 (t : Int) (sealB l) (from_ : Int) (tt : Int)) true := by
  have ht2 : tt ≤ 40000 := by clear ht; omega
  refine Ev.step (fun k => by rw [terrierlaw02_SumTurned.j1]) ?_
  by_cases c : from_ = tt
  · exact Ev.iteT (by rw [c]) (Ev.now _)
  have c' : ¬ (from_ : Int) = (tt : Int) := fun h => c (by exact_mod_cast h)
  refine Ev.iteF c' ?_
  have e2 : IntKind.u64.wrap ((tt - from_ : Nat) : Int) = ((tt - from_ : Nat) : Int) := wrap_u64_id (Int.natCast_nonneg _) (by clear ht; omega)
  rw [t_dif tt from_ hle ht2, e2]
  refine Ev.iteF (by clear ht e2; omega) ?_
  obtain ⟨u, hu⟩ : ∃ u : Nat, IntKind.u64.wrap a1 = (u : Int) := ⟨(IntKind.u64.wrap a1).toNat, by rw [wrap_u64]; omega⟩
  have e3 : Int.tmod (u : Int) ((tt - from_ : Nat) : Int) = ((u % (tt - from_) : Nat) : Int) := by rw [Int.tmod_eq_emod_of_nonneg (Int.natCast_nonneg _)]; exact (Int.natCast_emod _ _).symm
  have hm : u % (tt - from_) < tt - from_ := Nat.mod_lt _ (by clear ht e2 e3; omega)
  generalize u % (tt - from_) = r at e3 hm
  rw [hu, e3, t_wrap r (by clear ht e2 e3 hu; omega), t_sum from_ r (by clear ht e2 e3 hu; omega)]
  refine turn_loop l hl hl2 t (from_ + r) tt ht (by clear ht e2 e3 hu; omega) ?_ (min 32 (tt - (from_ + r))) 0 _ false (Nat.zero_add _) (seal_bytes hl) (seal_length l) ?_ ?_
  · rcases htt with ⟨h1, h2⟩ | ⟨h1, h2⟩
    · exact .inl ⟨by clear ht e2 e3 hu; omega, h2⟩
    · exact .inr h2
  · rw [Nat.pow_zero, Nat.mod_one, Nat.mul_zero, Nat.xor_zero]
  · rw [Nat.pow_zero, Nat.mod_one]; rfl
theorem SumTurned : terrierlaw02_SumTurned.Pure := by
  intro l a1 a2 a3 _ hl hb ha ht
  have hb := bytes_of_wf hb
  have ha := wf_i64.1 ha
  have ht := wf_u32.1 ht
  obtain ⟨t, hte⟩ : ∃ t : Nat, a2 = (t : Int) := ⟨a2.toNat, by omega⟩
  subst hte
  have hthen : ∀ b : Bool, b = true → Ev (fun k => terrierlaw02_SumTurned.j0 k l a1 (t : Int) a3 b) true := fun b hbt => by
    subst hbt
    exact Ev.step (fun k => by rw [terrierlaw02_SumTurned.j0]) (Ev.iteT rfl (Ev.bind lives_ev (Ev.now _)))
  refine Ev.rounds ?_
  unfold terrierlaw02_SumTurned.f
  refine Ev.bind lives_ev (Ev.iteT rfl ?_)
  by_cases c : (l.length : Int) > 4096
  · exact Ev.iteT c (hthen _ rfl)
  refine Ev.iteF c ?_
  by_cases c0 : t = 0
  · exact hthen _ (by simp [c0])
  have e0 : ((t : Int) == 0) = false := by simp [c0]
  rw [e0]
  refine Ev.step (fun k => by rw [terrierlaw02_SumTurned.j0]) (Ev.iteF (by decide) ?_)
  refine Ev.bind (Seal_ev l hb (by omega)) ?_
  have hsl := seal_length l
  refine Ev.iteT (by rw [wrap64_id (by omega) (by omega)]; omega) ?_
  cases a3
  · refine Ev.iteF (by decide) ?_
    have e1 : wrap64 (8 * ((sealB l).length : Int)) = ((8 * (l.length + 4) : Nat) : Int) := by rw [wrap64_id (by omega) (by omega)]; omega
    rw [e1]
    exact turn_from l hb (by omega) a1 t 32 _ (by omega) (by omega) (.inl ⟨rfl, rfl⟩)
  · exact Ev.iteT rfl (turn_from l hb (by omega) a1 t 0 32 (by omega) (by omega) (.inr ⟨rfl, rfl⟩))
end Go.Proofs.Ytmaoppljldllfaa.Pure
