/- How long a reply's bytes can be. -/
import Derived.Test.YtlhjdmpclfhoeaaRepReplyCodes
set_option linter.unusedSimpArgs false
namespace Go.Proofs.Ytlhjdmpclfhoeaa.RepL
open Go.RowKit Go.Proofs.YtlhjdmpclfhoeaaW.PrintWords Go.Proofs.YtlhjdmpclfhoeaaW.PrintLast Go.Proofs.YtlhjdmpclfhoeaaW.PrintMore Go.Proofs.Ytlhjdmpclfhoeaa.PC Go.Proofs.Ytlhjdmpclfhoeaa.Base Go.Proofs.Ytlhjdmpclfhoeaa.Oct Go.Proofs.Ytlhjdmpclfhoeaa.Rep
theorem text_len (t : List Int) : (wText t).1.length ≤ 65537 := by
  unfold wText
  by_cases c : 65535 < t.length
  · rw [if_pos c]; simp
  · rw [if_neg c]; simp only [List.length_append, putB_length]; omega
theorem num_len (n : Int) : (wNum n).1.length = 8 := putB_length _ _
theorem flag_len (f : Bool) : (wFlag f).1.length = 1 := by cases f <;> rfl
theorem many_len {α : Type} {f : α → W} {c : Nat} : ∀ (l : List α), (∀ x, (f x).1.length ≤ c) → (wMany f l).1.length ≤ l.length * c
  | [], _ => by simp [wMany]
  | x :: l, h => by
    have := many_len l h
    have := h x
    simp only [wMany, sq, List.length_append, List.length_cons, Nat.add_mul, Nat.one_mul]
    omega
theorem row_len {α : Type} {f : α → W} {c : Nat} (l : List α) (n : Nat) (hn : l.length ≤ n) (h : ∀ x, (f x).1.length ≤ c) : (wRow f l).1.length ≤ 2 + n * c := by
  unfold wRow
  by_cases d : 65535 < l.length
  · rw [if_pos d]; simp
  · rw [if_neg d]
    have := many_len l h
    have k : l.length * c ≤ n * c := Nat.mul_le_mul_right _ hn
    simp only [sq, wPut, List.length_append, putB_length]
    omega
theorem row_len' {α : Type} {f : α → W} {c : Nat} (l : List α) (h : ∀ x, (f x).1.length ≤ c) : (wRow f l).1.length ≤ 2 + 65535 * c := by
  by_cases d : 65535 < l.length
  · unfold wRow; rw [if_pos d]; simp
  · exact row_len l 65535 (by omega) h
theorem kv_len (x : S79) : (wKV x).1.length ≤ 131106 := by
  have := text_len x.f0
  have := text_len x.f1
  simp only [wKV, sq, List.length_append, num_len]
  omega
theorem told_len (t : S27) : (wTold t).1.length ≤ 8592031722 := by
  have h1 := row_len' t.f1.f0 kv_len
  have h2 := row_len' t.f2 kv_len
  unfold wTold
  simp only [sq, List.length_append, wSmall, List.length_singleton]
  split
  · simp only [List.length_append, num_len, flag_len]; omega
  · split
    · omega
    · split
      · simp only [List.length_append, num_len]; omega
      · simp
theorem reply_len (r : S33) (h : r.f5.length ≤ 50) : (wReply r).1.length ≤ 429601586200 := by
  have h1 := told_len r.f3
  have h2 := row_len r.f5 50 h told_len
  have h3 := row_len' r.f10 text_len
  have h4 := row_len' (f := wNum) (c := 8) r.f9 (fun x => by rw [num_len]; omega)
  have hb : (wBody r).1.length ≤ 429601586180 := by
    unfold wBody
    split
    · simp only [sq, List.length_append, List.length_nil]; omega
    split
    · simp only [sq, List.length_append, flag_len]; omega
    split
    · simp only [sq, List.length_append, num_len]; omega
    split
    · simp only [sq, List.length_append, num_len, flag_len]; omega
    split
    · simp only [sq, List.length_append, num_len]; omega
    split
    · omega
    split
    · rw [num_len]; omega
    split
    · simp only [wPut, putB_length]; omega
    split
    · simp only [sq, List.length_append, num_len]; omega
    · simp
  unfold wReply
  simp only [sq, List.length_append, num_len, wSmall, List.length_singleton, List.length_nil]
  split
  · omega
  · simp
end Go.Proofs.Ytlhjdmpclfhoeaa.RepL
