/- Plain facts on bytes, big-endian numbers and rounds: nothing of Go in it. -/
import Derived.Laws.BitsLemmas
import Derived.Laws.BytesArg
import Derived.DataShut
import Derived.Lib.Bytealg
import Derived.Test.YtlhjdmpclfhoeaaVMore
namespace Go.Proofs.Ytlhjdmpclfhoeaa.Base
open Go.RowKit Go.Proofs.YtlhjdmpclfhoeaaW.PrintWords Go.Proofs.YtlhjdmpclfhoeaaW.PrintMore
theorem wf_u32 {n : Int} : (Lit.int .u32 n).wf = true ↔ 0 ≤ n ∧ n ≤ 4294967295 := by
  rw [Lit.wf_int_iff]; simp [IntKind.min, IntKind.max, IntKind.signed, IntKind.bits]
theorem wrap_u64 (n : Int) : IntKind.u64.wrap n = n % 18446744073709551616 := by simp [IntKind.wrap, IntKind.bits, IntKind.signed]
theorem wrap_u64_id {n : Int} (h0 : 0 ≤ n) (h1 : n < 18446744073709551616) : IntKind.u64.wrap n = n := by rw [wrap_u64]; omega
theorem wrap64_id {n : Int} (h0 : -9223372036854775808 ≤ n) (h1 : n ≤ 9223372036854775807) : wrap64 n = n := by unfold wrap64; omega
theorem Ev.iteT {α : Type} {c : Prop} [Decidable c] {f g : Nat → Option α} {r : α} (h : c) (k : Ev f r) : Ev (fun n => if c then f n else g n) r := by
  simp only [if_pos h]; exact k
theorem Ev.iteF {α : Type} {c : Prop} [Decidable c] {f g : Nat → Option α} {r : α} (h : ¬ c) (k : Ev g r) : Ev (fun n => if c then f n else g n) r := by
  simp only [if_neg h]; exact k
theorem Ev.bind0 {α β : Type} {x : Option α} {f : Nat → α → Option β} {a : α} {r : β} (h : x = some a) (k : Ev (fun n => f n a) r) : Ev (fun n => x.bind (f n)) r := by
  subst h; simpa only [Option.bind_some] using k
theorem Ev.eq {α : Type} {g : Nat → Option α} {r r' : α} (h : Ev g r) (e : r = r') : Ev g r' := e ▸ h
theorem same_self (l : List Int) : ((strOfNums l).toList == (strOfNums l).toList) = true := by simp
def putB (n : Int) : Nat → List Int
  | 0 => []
  | d + 1 => putB (n / 256) d ++ [n % 256]
theorem putB_length : ∀ (d : Nat) (n : Int), (putB n d).length = d
  | 0, _ => rfl
  | d + 1, n => by simp [putB, putB_length d]
theorem pow256_8 : (256 : Int) ^ 8 = 18446744073709551616 := by decide
theorem pow256_le {d : Nat} (h : d ≤ 8) : (256 : Int) ^ d ≤ 18446744073709551616 := by
  have : d = 0 ∨ d = 1 ∨ d = 2 ∨ d = 3 ∨ d = 4 ∨ d = 5 ∨ d = 6 ∨ d = 7 ∨ d = 8 := by omega
  rcases this with h | h | h | h | h | h | h | h | h <;> subst h <;> decide
theorem shr_bytes (n : Int) (i : Nat) (h : i ≤ 8) : shr .u64 n (8 * (i : Int)) = n / 256 ^ i := by
  have : i = 0 ∨ i = 1 ∨ i = 2 ∨ i = 3 ∨ i = 4 ∨ i = 5 ∨ i = 6 ∨ i = 7 ∨ i = 8 := by omega
  rcases this with h | h | h | h | h | h | h | h | h <;> subst h <;> simp [shr, IntKind.bits]
theorem div_pow_succ (n : Int) (i : Nat) : n / 256 ^ i / 256 = n / 256 ^ (i + 1) := by
  rw [Int.pow_succ, Int.ediv_ediv_of_nonneg (Int.le_of_lt (Int.pow_pos (by omega)))]
theorem wrapInc {i : Nat} (h : i < 9223372036854775807) : wrap64 ((i : Int) + 1) = ((i + 1 : Nat) : Int) := by
  rw [wrap64_id (by omega) (by omega)]; omega
end Go.Proofs.Ytlhjdmpclfhoeaa.Base
