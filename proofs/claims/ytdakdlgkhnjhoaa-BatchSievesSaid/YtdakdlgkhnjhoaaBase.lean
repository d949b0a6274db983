/- Plain facts on bytes, big-endian numbers and rounds: nothing of Go in it. -/
import Derived.Laws.BitsLemmas
import Derived.Laws.BytesArg
import Derived.DataShut
import Derived.Lib.Bytealg
import Derived.Test.YtdakdlgkhnjhoaaWMore
namespace Go.Proofs.Ytdakdlgkhnjhoaa.Base
open Go.RowKit Go.Proofs.YtdakdlgkhnjhoaaW.PrintWords Go.Proofs.YtdakdlgkhnjhoaaW.PrintMore

/-! ### numbers of a kind -/
theorem wf_u8 {n : Int} : (Lit.int .u8 n).wf = true ↔ 0 ≤ n ∧ n ≤ 255 := by
  rw [Lit.wf_int_iff]; simp [IntKind.min, IntKind.max, IntKind.signed, IntKind.bits]
theorem wf_u32 {n : Int} : (Lit.int .u32 n).wf = true ↔ 0 ≤ n ∧ n ≤ 4294967295 := by
  rw [Lit.wf_int_iff]; simp [IntKind.min, IntKind.max, IntKind.signed, IntKind.bits]
theorem wf_u64 {n : Int} : (Lit.int .u64 n).wf = true ↔ 0 ≤ n ∧ n ≤ 18446744073709551615 := by
  rw [Lit.wf_int_iff]; simp [IntKind.min, IntKind.max, IntKind.signed, IntKind.bits]
theorem wf_i64 {n : Int} : (Lit.int .i64 n).wf = true ↔ -9223372036854775808 ≤ n ∧ n ≤ 9223372036854775807 := by
  rw [Lit.wf_int_iff]; simp [IntKind.min, IntKind.max, IntKind.signed, IntKind.bits]
theorem wrap_u64 (n : Int) : IntKind.u64.wrap n = n % 18446744073709551616 := by simp [IntKind.wrap, IntKind.bits, IntKind.signed]
theorem wrap_u64_id {n : Int} (h0 : 0 ≤ n) (h1 : n < 18446744073709551616) : IntKind.u64.wrap n = n := by rw [wrap_u64]; omega
theorem wraps_u64 (n : Int) (h0 : 0 ≤ n) (h1 : n < 2 ^ 64) : IntKind.u64.wrap n = n := wrap_u64_id h0 (by omega)
theorem wrap64_id {n : Int} (h0 : -9223372036854775808 ≤ n) (h1 : n ≤ 9223372036854775807) : wrap64 n = n := by unfold wrap64; omega

/-! ### rounds -/
theorem Ev.iteT {α : Type} {c : Prop} [Decidable c] {f g : Nat → Option α} {r : α} (h : c) (k : Ev f r) : Ev (fun n => if c then f n else g n) r := by
  simp only [if_pos h]; exact k
theorem Ev.iteF {α : Type} {c : Prop} [Decidable c] {f g : Nat → Option α} {r : α} (h : ¬ c) (k : Ev g r) : Ev (fun n => if c then f n else g n) r := by
  simp only [if_neg h]; exact k
theorem Ev.bind0 {α β : Type} {x : Option α} {f : Nat → α → Option β} {a : α} {r : β} (h : x = some a) (k : Ev (fun n => f n a) r) : Ev (fun n => x.bind (f n)) r := by
  subst h; simpa only [Option.bind_some] using k
theorem Ev.eq {α : Type} {g : Nat → Option α} {r r' : α} (h : Ev g r) (e : r = r') : Ev g r' := e ▸ h

/-! ### bytes -/
def Bytes (l : List Int) : Prop := ∀ x ∈ l, 0 ≤ x ∧ x < 256
theorem bytes_of_wf {l : List Int} (h : ∀ x ∈ l, (Lit.int .u8 x).wf = true) : Bytes l := fun x hx => by
  have := wf_u8.1 (h x hx); omega
theorem bytes_nil : Bytes [] := fun x hx => by cases hx
theorem bytes_cons {x : Int} {l : List Int} : Bytes (x :: l) ↔ (0 ≤ x ∧ x < 256) ∧ Bytes l := by simp [Bytes]
theorem bytes_append {l m : List Int} : Bytes (l ++ m) ↔ Bytes l ∧ Bytes m := by
  constructor
  · intro h; exact ⟨fun x hx => h x (List.mem_append_left _ hx), fun x hx => h x (List.mem_append_right _ hx)⟩
  · rintro ⟨h, k⟩ x hx
    rcases List.mem_append.1 hx with hx | hx
    · exact h x hx
    · exact k x hx
theorem bytes_take {l : List Int} (h : Bytes l) (n : Nat) : Bytes (l.take n) := fun x hx => h x (List.mem_of_mem_take hx)
theorem bytes_drop {l : List Int} (h : Bytes l) (n : Nat) : Bytes (l.drop n) := fun x hx => h x (List.mem_of_mem_drop hx)

theorem u8_inj {x y : Int} (hx : 0 ≤ x ∧ x < 256) (hy : 0 ≤ y ∧ y < 256) (h : UInt8.ofNat x.toNat = UInt8.ofNat y.toNat) : x = y := by
  have := congrArg UInt8.toNat h
  simp at this
  omega
theorem bytes_inj : ∀ {l m : List Int}, Bytes l → Bytes m → l.map (fun n => UInt8.ofNat n.toNat) = m.map (fun n => UInt8.ofNat n.toNat) → l = m
  | [], [], _, _, _ => rfl
  | [], _ :: _, _, _, h => by simp at h
  | _ :: _, [], _, _, h => by simp at h
  | x :: l, y :: m, hl, hm, h => by
    simp only [List.map_cons, List.cons.injEq] at h
    rw [u8_inj (bytes_cons.1 hl).1 (bytes_cons.1 hm).1 h.1, bytes_inj (bytes_cons.1 hl).2 (bytes_cons.1 hm).2 h.2]
theorem toList_map (b : ByteArray) : b.toList = b.data.toList := by
  exact ByteArray.toList_eq b
theorem same_bytes {l m : List Int} (hl : Bytes l) (hm : Bytes m) : ((strOfNums l).toList == (strOfNums m).toList) = decide (l = m) := by
  rw [toList_map, toList_map, strOfNums_data, strOfNums_data]
  by_cases h : l = m
  · subst h; simp
  · rw [decide_eq_false h]
    exact beq_eq_false_iff_ne.2 (fun e => h (bytes_inj hl hm e))
theorem same_self (l : List Int) : ((strOfNums l).toList == (strOfNums l).toList) = true := by simp

/-! ### big-endian numbers -/
def putB (n : Int) : Nat → List Int
  | 0 => []
  | d + 1 => putB (n / 256) d ++ [n % 256]
theorem putB_length : ∀ (d : Nat) (n : Int), (putB n d).length = d
  | 0, _ => rfl
  | d + 1, n => by simp [putB, putB_length d]
theorem putB_bytes : ∀ (d : Nat) (n : Int), Bytes (putB n d)
  | 0, _ => bytes_nil
  | d + 1, n => by
    rw [putB, bytes_append]
    refine ⟨putB_bytes d _, fun x hx => ?_⟩
    simp only [List.mem_singleton] at hx
    omega
def getA (a : Int) (l : List Int) : Int := l.foldl (fun a x => a * 256 + x) a
def getB (l : List Int) : Int := getA 0 l
theorem getA_nil (a : Int) : getA a [] = a := rfl
theorem getA_cons (a x : Int) (l : List Int) : getA a (x :: l) = getA (a * 256 + x) l := rfl
theorem getA_append (a : Int) (l m : List Int) : getA a (l ++ m) = getA (getA a l) m := by simp [getA, List.foldl_append]
theorem getB_snoc (l : List Int) (x : Int) : getB (l ++ [x]) = getB l * 256 + x := by
  rw [getB, getA_append]; rfl
theorem getA_bound : ∀ (l : List Int) (a : Int) (p : Int), Bytes l → 0 ≤ a → a < p → 0 ≤ getA a l ∧ getA a l < p * 256 ^ l.length
  | [], a, p, _, h0, h1 => by simp [getA_nil, h0, h1]
  | x :: l, a, p, h, h0, h1 => by
    have hx := (bytes_cons.1 h).1
    have := getA_bound l (a * 256 + x) (p * 256) (bytes_cons.1 h).2 (by omega) (by omega)
    rw [getA_cons, List.length_cons, Int.pow_succ, Int.mul_comm (256 ^ l.length) 256, ← Int.mul_assoc]
    exact this
theorem getB_bound {l : List Int} (h : Bytes l) : 0 ≤ getB l ∧ getB l < 256 ^ l.length := by
  have := getA_bound l 0 1 h (by omega) (by omega)
  rwa [Int.one_mul] at this
theorem list_snoc {α : Type} (l : List α) (d : Nat) (h : l.length = d + 1) : ∃ m x, l = m ++ [x] ∧ m.length = d := by
  rcases List.eq_nil_or_concat l with rfl | ⟨m, x, rfl⟩
  · simp at h
  · exact ⟨m, x, by simp, by simpa using h⟩
theorem putB_getB : ∀ (d : Nat) (l : List Int), l.length = d → Bytes l → putB (getB l) d = l
  | 0, l, h, _ => by
    rw [List.eq_nil_of_length_eq_zero h]; rfl
  | d + 1, l, h, hb => by
    obtain ⟨m, x, rfl, hm⟩ := list_snoc l d h
    have hx : 0 ≤ x ∧ x < 256 := (bytes_append.1 hb).2 x (by simp)
    rw [getB_snoc, putB, show (getB m * 256 + x) / 256 = getB m by omega, show (getB m * 256 + x) % 256 = x by omega, putB_getB d m hm (bytes_append.1 hb).1]
theorem emod_256 (n : Int) (p : Int) (hp : 0 < p) : n % (p * 256) = n / 256 % p * 256 + n % 256 := by
  have e1 := Int.emod_add_mul_ediv n 256
  have e2 := Int.emod_add_mul_ediv (n / 256) p
  have b1 : 0 ≤ n % 256 ∧ n % 256 < 256 := by omega
  have b2 := Int.emod_nonneg (n / 256) (by omega : p ≠ 0)
  have b3 := Int.emod_lt_of_pos (n / 256) hp
  generalize n / 256 % p = s at *
  generalize n / 256 / p = t at *
  have e3 : n = (s * 256 + n % 256) + (p * 256) * t := by
    have : 256 * (n / 256) = 256 * s + 256 * (p * t) := by rw [← e2]; rw [Int.mul_add]
    have e4 : p * 256 * t = 256 * (p * t) := by rw [Int.mul_comm p 256, Int.mul_assoc]
    omega
  have h1 : (s * 256 + n % 256) < p * 256 := by omega
  conv => lhs; rw [e3]
  rw [Int.add_mul_emod_self_left]
  exact Int.emod_eq_of_lt (by omega) h1
theorem getB_putB : ∀ (d : Nat) (n : Int), getB (putB n d) = n % 256 ^ d
  | 0, n => by simp [putB, getB, getA]
  | d + 1, n => by
    rw [putB, getB_snoc, getB_putB d, Int.pow_succ, emod_256 n (256 ^ d) (Int.pow_pos (by omega))]
theorem putB_inj {d : Nat} {n m : Int} (h : putB n d = putB m d) : n % 256 ^ d = m % 256 ^ d := by rw [← getB_putB, ← getB_putB, h]
theorem getB_putB_id {d : Nat} {n : Int} (h0 : 0 ≤ n) (h1 : n < 256 ^ d) : getB (putB n d) = n := by rw [getB_putB, Int.emod_eq_of_lt h0 h1]
theorem pow256_8 : (256 : Int) ^ 8 = 18446744073709551616 := by decide
theorem pow256_le {d : Nat} (h : d ≤ 8) : (256 : Int) ^ d ≤ 18446744073709551616 := by
  have : d = 0 ∨ d = 1 ∨ d = 2 ∨ d = 3 ∨ d = 4 ∨ d = 5 ∨ d = 6 ∨ d = 7 ∨ d = 8 := by omega
  rcases this with h | h | h | h | h | h | h | h | h <;> subst h <;> decide
theorem shr_bytes (n : Int) (i : Nat) (h : i ≤ 8) : shr .u64 n (8 * (i : Int)) = n / 256 ^ i := by
  have : i = 0 ∨ i = 1 ∨ i = 2 ∨ i = 3 ∨ i = 4 ∨ i = 5 ∨ i = 6 ∨ i = 7 ∨ i = 8 := by omega
  rcases this with h | h | h | h | h | h | h | h | h <;> subst h <;> simp [shr, IntKind.bits]
theorem div_pow_succ (n : Int) (i : Nat) : n / 256 ^ i / 256 = n / 256 ^ (i + 1) := by
  rw [Int.pow_succ, Int.ediv_ediv_of_nonneg (Int.le_of_lt (Int.pow_pos (by omega)))]
theorem or_byte {a b : Int} (h0 : 0 ≤ a) (h1 : a * 256 < 18446744073709551616) (b0 : 0 ≤ b) (b1 : b < 256) : Go.bits .or .u64 (a * 256) b = a * 256 + b :=
  bits_join .u64 64 (by decide) wraps_u64 8 _ _ (by omega) (by omega) (by omega) b0 (by omega) (by omega)

/-! ### reading a list -/
theorem rd_drop {l : List Int} {i : Nat} (h : i < l.length) : l.drop i = rd l i :: l.drop (i + 1) := by
  rw [List.drop_eq_getElem_cons h]
  simp [rd, List.getD_eq_getElem?_getD, List.getElem?_eq_getElem h]
theorem rd_byte {l : List Int} (h : Bytes l) (i : Int) : 0 ≤ rd l i ∧ rd l i < 256 := by
  unfold rd
  rcases Nat.lt_or_ge i.toNat l.length with hi | hi
  · rw [List.getD_eq_getElem?_getD, List.getElem?_eq_getElem hi]
    exact h _ (List.getElem_mem hi)
  · rw [List.getD_eq_getElem?_getD, List.getElem?_eq_none hi]
    simp
theorem rd_add (l : List Int) (a i : Nat) : rd (l.drop a) i = rd l ((a + i : Nat) : Int) := by
  have e : (((a + i : Nat) : Int)).toNat = a + i := Int.toNat_natCast _
  simp only [rd, e, List.getD_eq_getElem?_getD, Int.toNat_natCast, List.getElem?_drop]
theorem rd_take {l : List Int} {n i : Nat} (h : i < n) : rd (l.take n) i = rd l i := by
  simp [rd, List.getD_eq_getElem?_getD, h]
theorem wrapInc {i : Nat} (h : i < 9223372036854775807) : wrap64 ((i : Int) + 1) = ((i + 1 : Nat) : Int) := by
  rw [wrap64_id (by omega) (by omega)]; omega

/-! ### the order of keys -/
def cmpB : List Int → List Int → Int
  | [], [] => 0
  | [], _ :: _ => -1
  | _ :: _, [] => 1
  | x :: l, y :: m => if x < y then -1 else if y < x then 1 else cmpB l m
theorem cmpB_cons (x y : Int) (l m : List Int) : cmpB (x :: l) (y :: m) = if x < y then -1 else if y < x then 1 else cmpB l m := rfl
theorem cmpB_three : ∀ l m, cmpB l m = -1 ∨ cmpB l m = 0 ∨ cmpB l m = 1
  | [], [] => by simp [cmpB]
  | [], _ :: _ => by simp [cmpB]
  | _ :: _, [] => by simp [cmpB]
  | x :: l, y :: m => by
    unfold cmpB
    split
    · simp
    · split
      · simp
      · exact cmpB_three l m
theorem cmpB_self : ∀ l, cmpB l l = 0
  | [] => rfl
  | x :: l => by simp [cmpB, cmpB_self l]
theorem cmpB_eq : ∀ l m, cmpB l m = 0 → l = m
  | [], [], _ => rfl
  | [], _ :: _, h => by simp [cmpB] at h
  | _ :: _, [], h => by simp [cmpB] at h
  | x :: l, y :: m, h => by
    unfold cmpB at h
    split at h
    · simp at h
    · split at h
      · simp at h
      · rw [cmpB_eq l m h, show x = y by omega]
theorem cmpB_zero (l m : List Int) : cmpB l m = 0 ↔ l = m := ⟨cmpB_eq l m, fun h => h ▸ cmpB_self l⟩
theorem cmpB_swap : ∀ l m, cmpB m l = -cmpB l m
  | [], [] => rfl
  | [], _ :: _ => rfl
  | _ :: _, [] => rfl
  | x :: l, y :: m => by
    unfold cmpB
    by_cases h1 : x < y
    · rw [if_pos h1, if_neg (by omega), if_pos h1]; rfl
    · by_cases h2 : y < x
      · simp only [h1, h2, if_true, if_false]
      · rw [if_neg h1, if_neg h2, if_neg h2, if_neg h1]; exact cmpB_swap l m
theorem cmpB_trans : ∀ a b c, cmpB a b ≤ 0 → cmpB b c ≤ 0 → cmpB a c ≤ 0 ∧ (cmpB a b < 0 ∨ cmpB b c < 0 → cmpB a c < 0)
  | [], b, [], _, h2 => by cases b <;> simp [cmpB] at h2 ⊢
  | [], b, z :: c, _, _ => by simp [cmpB]
  | x :: a, [], c, h1, _ => by simp [cmpB] at h1
  | x :: a, y :: b, [], _, h2 => by simp [cmpB] at h2
  | x :: a, y :: b, z :: c, h1, h2 => by
    unfold cmpB at h1 h2 ⊢
    by_cases p1 : x < y
    · by_cases p2 : y < z
      · rw [if_pos (by omega : x < z)]; simp
      · rw [if_neg p2] at h2
        by_cases p3 : z < y
        · rw [if_pos p3] at h2; omega
        · rw [if_pos (by omega : x < z)]; simp
    · rw [if_neg p1] at h1 ⊢
      by_cases p3 : y < x
      · rw [if_pos p3] at h1; omega
      · rw [if_neg p3] at h1 ⊢
        by_cases p2 : y < z
        · rw [if_pos (by omega : x < z)]; simp
        · rw [if_neg p2] at h2 ⊢
          by_cases p4 : z < y
          · rw [if_pos p4] at h2; omega
          · rw [if_neg p4] at h2 ⊢
            rw [if_neg (by omega : ¬ x < z), if_neg (by omega : ¬ z < x)]
            exact cmpB_trans a b c h1 h2
theorem u8_lt {x y : Int} (hx : 0 ≤ x ∧ x < 256) (hy : 0 ≤ y ∧ y < 256) : UInt8.ofNat x.toNat < UInt8.ofNat y.toNat ↔ x < y := by
  rw [UInt8.lt_iff_toNat_lt]
  simp
  omega
theorem compareBytes_eq : ∀ {l m : List Int}, Bytes l → Bytes m → Lib.compareBytes (l.map fun n => UInt8.ofNat n.toNat) (m.map fun n => UInt8.ofNat n.toNat) = cmpB l m
  | [], [], _, _ => rfl
  | [], _ :: _, _, _ => rfl
  | _ :: _, [], _, _ => rfl
  | x :: l, y :: m, hl, hm => by
    have e1 := u8_lt (bytes_cons.1 hl).1 (bytes_cons.1 hm).1
    have e2 := u8_lt (bytes_cons.1 hm).1 (bytes_cons.1 hl).1
    simp only [List.map_cons, Lib.compareBytes, cmpB, e1, e2]
    split
    · rfl
    · split
      · rfl
      · exact compareBytes_eq (bytes_cons.1 hl).2 (bytes_cons.1 hm).2
theorem cmpB_snoc (p : List Int) : ∀ l m, cmpB (p ++ l) (p ++ m) = cmpB l m := by
  induction p with
  | nil => intro l m; rfl
  | cons x p ih => intro l m; simp [cmpB, ih]
/-- Numbers of one size come in the order of their bytes. -/
theorem cmpB_putB : ∀ (d : Nat) (n m : Int), 0 ≤ n → 0 ≤ m → n < 256 ^ d → m < 256 ^ d → cmpB (putB n d) (putB m d) = if n < m then -1 else if m < n then 1 else 0
  | 0, n, m, h0, h1, h2, h3 => by
    simp at h2 h3
    rw [if_neg (by omega), if_neg (by omega)]; rfl
  | d + 1, n, m, h0, h1, h2, h3 => by
    rw [Int.pow_succ] at h2 h3
    have ih := cmpB_putB d (n / 256) (m / 256) (by omega) (by omega) (by omega) (by omega)
    have app : ∀ (l m : List Int) (x y : Int), l.length = m.length → cmpB (l ++ [x]) (m ++ [y]) = if cmpB l m = 0 then cmpB [x] [y] else cmpB l m := by
      intro l
      induction l with
      | nil => intro m x y h; cases m with
        | nil => simp [cmpB_self]
        | cons _ _ => simp at h
      | cons a l ih => intro m x y h; cases m with
        | nil => simp at h
        | cons b m =>
          simp only [List.cons_append]
          unfold cmpB
          by_cases p : a < b
          · simp [p]
          · by_cases q : b < a
            · simp [p, q]
            · simp only [p, q, if_false]
              exact ih m x y (by simpa using h)
    rw [putB, putB, app _ _ _ _ (by simp [putB_length]), ih]
    by_cases p : n / 256 < m / 256
    · rw [if_pos p, if_neg (by omega), if_pos (by omega)]
    · by_cases q : m / 256 < n / 256
      · rw [if_neg p, if_pos q, if_neg (by omega), if_neg (by omega), if_pos (by omega)]
      · rw [if_neg p, if_neg q, if_pos rfl]
        unfold cmpB
        by_cases r : n % 256 < m % 256
        · rw [if_pos r, if_pos (by omega)]
        · by_cases s : m % 256 < n % 256
          · rw [if_neg r, if_pos s, if_neg (by omega), if_pos (by omega)]
          · rw [if_neg r, if_neg s, if_neg (by omega), if_neg (by omega)]; rfl
theorem cmpB_app : ∀ (p q l m : List Int), p.length = q.length → cmpB (p ++ l) (q ++ m) = if cmpB p q = 0 then cmpB l m else cmpB p q
  | [], [], l, m, _ => by simp [cmpB]
  | [], _ :: _, _, _, h => by simp at h
  | _ :: _, [], _, _, h => by simp at h
  | x :: p, y :: q, l, m, h => by
    simp only [List.cons_append, cmpB_cons]
    by_cases h1 : x < y
    · simp [h1]
    · by_cases h2 : y < x
      · simp [h1, h2]
      · simp only [h1, h2, if_false]
        exact cmpB_app p q l m (by simpa using h)
/-- How many bytes from the front are alike. -/
def comm : List Int → List Int → Nat
  | x :: l, y :: m => if x = y then comm l m + 1 else 0
  | _, _ => 0
theorem comm_le : ∀ l m, comm l m ≤ l.length ∧ comm l m ≤ m.length
  | [], m => by simp [comm]
  | _ :: _, [] => by simp [comm]
  | x :: l, y :: m => by
    unfold comm
    have := comm_le l m
    split <;> simp <;> omega
theorem comm_take : ∀ l m : List Int, l.take (comm l m) = m.take (comm l m)
  | [], m => by simp [comm]
  | _ :: _, [] => by simp [comm]
  | x :: l, y :: m => by
    unfold comm
    split
    · rename_i h
      rw [List.take_succ_cons, List.take_succ_cons, comm_take l m, h]
    · simp
theorem comm_next : ∀ l m, comm l m < l.length → comm l m < m.length → rd l (comm l m) ≠ rd m (comm l m)
  | [], m, h, _ => by simp at h
  | _ :: _, [], _, h => by simp at h
  | x :: l, y :: m, h1, h2 => by
    unfold comm at h1 h2 ⊢
    split at h1
    · rename_i h
      rw [if_pos h] at h2 ⊢
      have := comm_next l m (by simpa using h1) (by simpa using h2)
      simpa [rd] using this
    · rename_i h
      rw [if_neg h]
      simpa [rd] using h
theorem comm_all : ∀ l m, comm l m = l.length ↔ l <+: m
  | [], m => by simp [comm]
  | _ :: _, [] => by simp [comm]
  | x :: l, y :: m => by
    unfold comm
    rw [List.cons_prefix_cons, ← comm_all l m]
    by_cases h : x = y
    · simp [h]
    · simp [h]
end Go.Proofs.Ytdakdlgkhnjhoaa.Base
