/- What octets.Put, octets.Get and the document's Put, Fits, Get, Twin, Same come to, as plain functions. -/
import Derived.Test.YtdakdlgkhnjhoaaBase
import Derived.Test.YtdakdlgkhnjhoaaPSx14
import Derived.Test.YtdakdlgkhnjhoaaPSx2
import Derived.Test.YtdakdlgkhnjhoaaPSx9
namespace Go.Proofs.Ytdakdlgkhnjhoaa.Oct
open Go.RowKit Go.Proofs.YtdakdlgkhnjhoaaW.PrintWords Go.Proofs.YtdakdlgkhnjhoaaW.PrintMore Go.Proofs.Ytdakdlgkhnjhoaa.PS Go.Proofs.Ytdakdlgkhnjhoaa.Base

theorem Same_eq {l m : List Int} (hl : Bytes l) (hm : Bytes m) : terrierref01_Same.f l m = some (decide (l = m)) := by
  unfold terrierref01_Same.f; rw [same_bytes hl hm]
theorem Same_self (l : List Int) : terrierref01_Same.f l l = some true := by
  unfold terrierref01_Same.f; rw [same_self]
theorem Equal_eq {l m : List Int} (hl : Bytes l) (hm : Bytes m) : bytes_Equal.f l m = some (decide (l = m)) := by
  unfold bytes_Equal.f; rw [same_bytes hl hm]
theorem Clone_eq {l : List Int} (h : l.length < 140737488355328) : bytes_Clone.f l = some l := by
  simp [bytes_Clone.f, h]
/-- What Get answers. -/
def getE (l : List Int) (i size : Int) : Int × Int :=
  if size < 1 ∨ 8 < size then (0, 1) else if i < 0 ∨ (l.length : Int) < i ∨ (l.length : Int) - i < size then (0, 3) else (getB ((l.drop i.toNat).take size.toNat), 0)
theorem getA_step {a x : Int} {n d : Nat} (h0 : 0 ≤ a) (ha : a < 256 ^ n) (hx : 0 ≤ x ∧ x < 256) (hd : n + (d + 1) ≤ 8) : a * 256 < 18446744073709551616 ∧ 0 ≤ a * 256 + x ∧ a * 256 + x < 256 ^ (n + 1) := by
  have h1 := pow256_le (d := n + 1) (by omega)
  rw [Int.pow_succ] at h1 ⊢
  omega
/-! ### the end of a prefix's range -/
def endF : List Int → Option (List Int)
  | [] => none
  | x :: p => match endF p with
    | some e => some (x :: e)
    | none => if x = 255 then none else some [x + 1]
theorem endF_snoc : ∀ (l : List Int) (x : Int), endF (l ++ [x]) = if x = 255 then endF l else some (l ++ [x + 1])
  | [], x => by simp [endF]
  | y :: l, x => by
    simp only [List.cons_append, endF, endF_snoc l x]
    by_cases h : x = 255
    · simp [h]
    · simp [h]
theorem endF_some : ∀ (p e : List Int), Bytes p → endF p = some e → e ≠ [] ∧ e ≠ [0] ∧ Bytes e
  | [], e, _, h => by simp [endF] at h
  | x :: p, e, hb, h => by
    have hx := (bytes_cons.1 hb).1
    unfold endF at h
    cases hp : endF p with
    | some e' =>
      rw [hp] at h
      obtain ⟨a1, a2, a3⟩ := endF_some p e' (bytes_cons.1 hb).2 hp
      simp only [Option.some.injEq] at h
      subst h
      refine ⟨by simp, ?_, bytes_cons.2 ⟨hx, a3⟩⟩
      intro h'
      simp only [List.cons.injEq] at h'
      exact a1 h'.2
    | none =>
      rw [hp] at h
      by_cases hx' : x = 255
      · simp [hx'] at h
      · simp only [hx', if_false, Option.some.injEq] at h
        subst h
        refine ⟨by simp, ?_, bytes_cons.2 ⟨by omega, bytes_nil⟩⟩
        intro h'
        simp only [List.cons.injEq] at h'
        omega
def endB (p : List Int) : List Int := (endF p).getD [0]
theorem endB_bytes {p : List Int} (h : Bytes p) : Bytes (endB p) := by
  unfold endB
  cases he : endF p with
  | none => simp [Bytes]
  | some e => exact (endF_some p e h he).2.2
theorem endF_cons (x : Int) (p : List Int) : endF (x :: p) = match endF p with
    | some e => some (x :: e)
    | none => if x = 255 then none else some [x + 1] := rfl
theorem endF_prefix : ∀ (p k : List Int), Bytes p → Bytes k → ((0 ≤ cmpB k p ∧ ∀ e, endF p = some e → cmpB k e < 0) ↔ p <+: k)
  | [], k, _, _ => by
    cases k <;> simp [cmpB, endF]
  | x :: p, [], _, _ => by simp [cmpB]
  | x :: p, y :: k, hp, hk => by
    have hx := (bytes_cons.1 hp).1
    have hy := (bytes_cons.1 hk).1
    have ih := endF_prefix p k (bytes_cons.1 hp).2 (bytes_cons.1 hk).2
    rw [List.cons_prefix_cons, ← ih, endF_cons, cmpB_cons]
    cases he : endF p with
    | some e' =>
      simp only [Option.some.injEq, forall_eq']
      rw [cmpB_cons]
      by_cases h1 : y < x
      · rw [if_pos h1]; constructor
        · intro h; omega
        · intro h; omega
      · by_cases h2 : x < y
        · rw [if_neg h1, if_pos h2, if_neg h1, if_pos h2]; constructor
          · intro h; omega
          · intro h; omega
        · have : x = y := by omega
          rw [if_neg h1, if_neg h2, if_neg h1, if_neg h2]
          exact ⟨fun h => ⟨this, h⟩, fun h => h.2⟩
    | none =>
      simp only [reduceCtorEq, false_implies, implies_true, and_true]
      by_cases h255 : x = 255
      · rw [if_pos h255]
        by_cases h2 : y < x
        · rw [if_pos h2]; constructor
          · intro h; omega
          · intro h; omega
        · have h3 : ¬ x < y := by omega
          rw [if_neg h2, if_neg h3]
          exact ⟨fun h => ⟨by omega, h.1⟩, fun h => ⟨h.2, fun e z => by cases z⟩⟩
      · rw [if_neg h255]
        simp only [Option.some.injEq, forall_eq']
        rw [cmpB_cons]
        by_cases h1 : y < x
        · rw [if_pos h1]; constructor
          · intro h; omega
          · intro h; omega
        · by_cases h2 : x < y
          · have h3 : ¬ y < x + 1 := by omega
            rw [if_neg h1, if_pos h2, if_neg h3]
            by_cases h4 : x + 1 < y
            · rw [if_pos h4]; constructor
              · intro h; omega
              · intro h; omega
            · rw [if_neg h4]
              have : ¬ cmpB k [] < 0 := by cases k <;> simp [cmpB]
              constructor
              · intro h; omega
              · intro h; omega
          · have : x = y := by omega
            rw [if_neg h1, if_neg h2, if_pos (by omega)]
            exact ⟨fun h => ⟨this, h.1⟩, fun h => ⟨h.2, by omega⟩⟩
/-- Is a key in a range? -/
def inB (k key e : List Int) : Bool := if e = [] then decide (k = key) else if e = [0] then decide (0 ≤ cmpB k key) else decide (0 ≤ cmpB k key) && decide (cmpB k e < 0)
theorem inB_prefix {p k : List Int} (hp : Bytes p) (hk : Bytes k) : inB k p (endB p) = decide (p <+: k) := by
  have h := endF_prefix p k hp hk
  unfold inB endB
  cases he : endF p with
  | none =>
    rw [he] at h
    simp at h
    simp [h]
  | some e =>
    obtain ⟨a1, a2, _⟩ := endF_some p e hp he
    rw [he] at h
    simp at h
    simp only [Option.getD_some, a1, a2, if_false]
    by_cases q : p <+: k
    · have := h.2 q
      simp [q, this.1, this.2]
    · rw [decide_eq_false q]
      by_cases q1 : 0 ≤ cmpB k p
      · have : ¬ cmpB k e < 0 := fun z => q (h.1 ⟨q1, z⟩)
        simp [this]
      · simp [q1]
end Go.Proofs.Ytdakdlgkhnjhoaa.Oct
