/- Plain facts on bytes, big-endian numbers and rounds: nothing of Go in it. -/
import Derived.Laws.BitsLemmas
import Derived.Laws.BytesArg
import Derived.DataShut
import Derived.Lib.Bytealg
import Derived.Test.YtandeendeoempaaVMore
namespace Go.Proofs.Ytandeendeoempaa.Base
open Go.RowKit Go.Proofs.YtandeendeoempaaW.PrintWords Go.Proofs.YtandeendeoempaaW.PrintMore
theorem wf_u8 {n : Int} : (Lit.int .u8 n).wf = true ↔ 0 ≤ n ∧ n ≤ 255 := by
  rw [Lit.wf_int_iff]; simp [IntKind.min, IntKind.max, IntKind.signed, IntKind.bits]
theorem wf_u64 {n : Int} : (Lit.int .u64 n).wf = true ↔ 0 ≤ n ∧ n ≤ 18446744073709551615 := by
  rw [Lit.wf_int_iff]; simp [IntKind.min, IntKind.max, IntKind.signed, IntKind.bits]
theorem wrap_u64 (n : Int) : IntKind.u64.wrap n = n % 18446744073709551616 := by simp [IntKind.wrap, IntKind.bits, IntKind.signed]
theorem wrap_u64_id {n : Int} (h0 : 0 ≤ n) (h1 : n < 18446744073709551616) : IntKind.u64.wrap n = n := by rw [wrap_u64]; omega
theorem wrap64_id {n : Int} (h0 : -9223372036854775808 ≤ n) (h1 : n ≤ 9223372036854775807) : wrap64 n = n := by unfold wrap64; omega
theorem Ev.iteT {α : Type} {c : Prop} [Decidable c] {f g : Nat → Option α} {r : α} (h : c) (k : Ev f r) : Ev (fun n => if c then f n else g n) r := by
  simp only [if_pos h]; exact k
theorem Ev.iteF {α : Type} {c : Prop} [Decidable c] {f g : Nat → Option α} {r : α} (h : ¬ c) (k : Ev g r) : Ev (fun n => if c then f n else g n) r := by
  simp only [if_neg h]; exact k
theorem Ev.bind0 {α β : Type} {x : Option α} {f : Nat → α → Option β} {a : α} {r : β} (h : x = some a) (k : Ev (fun n => f n a) r) : Ev (fun n => x.bind (f n)) r := by
  subst h; simpa only [Option.bind_some] using k
theorem Ev.eq {α : Type} {g : Nat → Option α} {r r' : α} (h : Ev g r) (e : r = r') : Ev g r' := e ▸ h
def Bytes (l : List Int) : Prop := ∀ x ∈ l, 0 ≤ x ∧ x < 256
theorem bytes_of_wf {l : List Int} (h : ∀ x ∈ l, (Lit.int .u8 x).wf = true) : Bytes l := fun x hx => by
  have := wf_u8.1 (h x hx); omega
theorem bytes_nil : Bytes [] := fun x hx => by cases hx
theorem bytes_cons {x : Int} {l : List Int} : Bytes (x :: l) ↔ (0 ≤ x ∧ x < 256) ∧ Bytes l := by simp [Bytes]
theorem bytes_append {l m : List Int} : Bytes (l ++ m) ↔ Bytes l ∧ Bytes m := by
  constructor
  · intro h; exact ⟨fun x hx => h x (List.mem_append_left _ hx), fun x hx => h x (List.mem_append_right _ hx)⟩
  · rintro ⟨h, k⟩ x hx
    rcases List.mem_append.1 hx with hx | hx
    · exact h x hx
    · exact k x hx
theorem bytes_take {l : List Int} (h : Bytes l) (n : Nat) : Bytes (l.take n) := fun x hx => h x (List.mem_of_mem_take hx)
theorem bytes_drop {l : List Int} (h : Bytes l) (n : Nat) : Bytes (l.drop n) := fun x hx => h x (List.mem_of_mem_drop hx)
theorem u8_inj {x y : Int} (hx : 0 ≤ x ∧ x < 256) (hy : 0 ≤ y ∧ y < 256) (h : UInt8.ofNat x.toNat = UInt8.ofNat y.toNat) : x = y := by
  have := congrArg UInt8.toNat h
  simp at this
  omega
theorem bytes_inj : ∀ {l m : List Int}, Bytes l → Bytes m → l.map (fun n => UInt8.ofNat n.toNat) = m.map (fun n => UInt8.ofNat n.toNat) → l = m
  | [], [], _, _, _ => rfl
  | [], _ :: _, _, _, h => by simp at h
  | _ :: _, [], _, _, h => by simp at h
  | x :: l, y :: m, hl, hm, h => by
    simp only [List.map_cons, List.cons.injEq] at h
    rw [u8_inj (bytes_cons.1 hl).1 (bytes_cons.1 hm).1 h.1, bytes_inj (bytes_cons.1 hl).2 (bytes_cons.1 hm).2 h.2]
theorem toList_map (b : ByteArray) : b.toList = b.data.toList := by
  exact ByteArray.toList_eq b
theorem same_bytes {l m : List Int} (hl : Bytes l) (hm : Bytes m) : ((strOfNums l).toList == (strOfNums m).toList) = decide (l = m) := by
  rw [toList_map, toList_map, strOfNums_data, strOfNums_data]
  by_cases h : l = m
  · subst h; simp
  · rw [decide_eq_false h]
    exact beq_eq_false_iff_ne.2 (fun e => h (bytes_inj hl hm e))
theorem same_self (l : List Int) : ((strOfNums l).toList == (strOfNums l).toList) = true := by simp
def putB (n : Int) : Nat → List Int
  | 0 => []
  | d + 1 => putB (n / 256) d ++ [n % 256]
theorem putB_length : ∀ (d : Nat) (n : Int), (putB n d).length = d
  | 0, _ => rfl
  | d + 1, n => by simp [putB, putB_length d]
theorem putB_bytes : ∀ (d : Nat) (n : Int), Bytes (putB n d)
  | 0, _ => bytes_nil
  | d + 1, n => by
    rw [putB, bytes_append]
    refine ⟨putB_bytes d _, fun x hx => ?_⟩
    simp only [List.mem_singleton] at hx
    omega
theorem pow256_8 : (256 : Int) ^ 8 = 18446744073709551616 := by decide
theorem pow256_le {d : Nat} (h : d ≤ 8) : (256 : Int) ^ d ≤ 18446744073709551616 := by
  have : d = 0 ∨ d = 1 ∨ d = 2 ∨ d = 3 ∨ d = 4 ∨ d = 5 ∨ d = 6 ∨ d = 7 ∨ d = 8 := by omega
  rcases this with h | h | h | h | h | h | h | h | h <;> subst h <;> decide
theorem shr_bytes (n : Int) (i : Nat) (h : i ≤ 8) : shr .u64 n (8 * (i : Int)) = n / 256 ^ i := by
  have : i = 0 ∨ i = 1 ∨ i = 2 ∨ i = 3 ∨ i = 4 ∨ i = 5 ∨ i = 6 ∨ i = 7 ∨ i = 8 := by omega
  rcases this with h | h | h | h | h | h | h | h | h <;> subst h <;> simp [shr, IntKind.bits]
theorem div_pow_succ (n : Int) (i : Nat) : n / 256 ^ i / 256 = n / 256 ^ (i + 1) := by
  rw [Int.pow_succ, Int.ediv_ediv_of_nonneg (Int.le_of_lt (Int.pow_pos (by omega)))]
theorem rd_drop {l : List Int} {i : Nat} (h : i < l.length) : l.drop i = rd l i :: l.drop (i + 1) := by
  rw [List.drop_eq_getElem_cons h]
  simp [rd, List.getD_eq_getElem?_getD, List.getElem?_eq_getElem h]
theorem rd_byte {l : List Int} (h : Bytes l) (i : Int) : 0 ≤ rd l i ∧ rd l i < 256 := by
  unfold rd
  rcases Nat.lt_or_ge i.toNat l.length with hi | hi
  · rw [List.getD_eq_getElem?_getD, List.getElem?_eq_getElem hi]
    exact h _ (List.getElem_mem hi)
  · rw [List.getD_eq_getElem?_getD, List.getElem?_eq_none hi]
    simp
theorem wrapInc {i : Nat} (h : i < 9223372036854775807) : wrap64 ((i : Int) + 1) = ((i + 1 : Nat) : Int) := by
  rw [wrap64_id (by omega) (by omega)]; omega
def cmpB : List Int → List Int → Int
  | [], [] => 0
  | [], _ :: _ => -1
  | _ :: _, [] => 1
  | x :: l, y :: m => if x < y then -1 else if y < x then 1 else cmpB l m
theorem cmpB_three : ∀ l m, cmpB l m = -1 ∨ cmpB l m = 0 ∨ cmpB l m = 1
  | [], [] => by simp [cmpB]
  | [], _ :: _ => by simp [cmpB]
  | _ :: _, [] => by simp [cmpB]
  | x :: l, y :: m => by
    unfold cmpB
    split
    · simp
    · split
      · simp
      · exact cmpB_three l m
theorem u8_lt {x y : Int} (hx : 0 ≤ x ∧ x < 256) (hy : 0 ≤ y ∧ y < 256) : UInt8.ofNat x.toNat < UInt8.ofNat y.toNat ↔ x < y := by
  rw [UInt8.lt_iff_toNat_lt]
  simp
  omega
theorem compareBytes_eq : ∀ {l m : List Int}, Bytes l → Bytes m → Lib.compareBytes (l.map fun n => UInt8.ofNat n.toNat) (m.map fun n => UInt8.ofNat n.toNat) = cmpB l m
  | [], [], _, _ => rfl
  | [], _ :: _, _, _ => rfl
  | _ :: _, [], _, _ => rfl
  | x :: l, y :: m, hl, hm => by
    have e1 := u8_lt (bytes_cons.1 hl).1 (bytes_cons.1 hm).1
    have e2 := u8_lt (bytes_cons.1 hm).1 (bytes_cons.1 hl).1
    simp only [List.map_cons, Lib.compareBytes, cmpB, e1, e2]
    split
    · rfl
    · split
      · rfl
      · exact compareBytes_eq (bytes_cons.1 hl).2 (bytes_cons.1 hm).2
end Go.Proofs.Ytandeendeoempaa.Base
