/- What the functions of package record, and the document's for its layer, compute, as plain lists of bytes. -/
import Derived.Test.YtapmgeofbjgalaaOctRecordReads
import Derived.Test.YtapmgeofbjgalaaPRx2
import Derived.Test.YtapmgeofbjgalaaPRx3
import Derived.Test.YtapmgeofbjgalaaPRx4
namespace Go.Proofs.Ytapmgeofbjgalaa.Rec
open Go.RowKit Go.Proofs.YtapmgeofbjgalaaW.PrintWords Go.Proofs.YtapmgeofbjgalaaW.PrintLast Go.Proofs.YtapmgeofbjgalaaW.PrintMore Go.Proofs.Ytapmgeofbjgalaa.PR Go.Proofs.Ytapmgeofbjgalaa.Base Go.Proofs.Ytapmgeofbjgalaa.Oct

theorem pow2 : (256 : Int) ^ 2 = 65536 := by decide
theorem put_ev (l : List Int) (n size : Int) (hs1 : 1 ≤ size) (hs8 : size ≤ 8) (h0 : 0 ≤ n) (h1 : n < 256 ^ size.toNat) (hl : l.length ≤ 100000) : Ev (fun k => record_put.f k l n size) (l ++ putB n size.toNat) := by
  have h2 := pow256_le (d := size.toNat) (by omega)
  unfold record_put.f
  refine Ev.bind (Put_ev n size h0 (by omega) (by omega) (by omega)) ?_
  have e : putE n size = (putB n size.toNat, 0) := by
    unfold putE
    rw [if_neg (by omega), if_neg (by rw [Int.ediv_eq_zero_of_lt h0 h1]; simp)]
  rw [e]
  exact Ev.iteT (by simp [putB_length]; omega) (Ev.now _)
def tombE (k : List Int) : List Int := [2] ++ putB (k.length : Int) 2 ++ k
def Named (k : List Int) : Prop := 1 ≤ k.length ∧ k.length ≤ 64
instance (k : List Int) : Decidable (Named k) := inferInstanceAs (Decidable (_ ∧ _))
theorem key_eq (k : List Int) : record_key.f k = some (decide (Named k)) := by
  unfold record_key.f Named
  by_cases c : (k.length : Int) ≥ 1
  · rw [if_pos c]
    have : 1 ≤ k.length := by omega
    simp [this]
    omega
  · rw [if_neg c]
    have : ¬ 1 ≤ k.length := by omega
    simp [this]
theorem Tomb_ev (k : List Int) : Ev (fun n => record_Tomb.f n k) (if Named k then (tombE k, 0) else ([], 4)) := by
  unfold record_Tomb.f
  refine Ev.bind0 (key_eq k) ?_
  by_cases c : Named k
  · obtain ⟨h1, h2⟩ := id c
    rw [if_pos c]
    refine Ev.iteT (by simp [c]) ?_
    rw [wrap_u64_id (by omega) (by omega)]
    refine Ev.bind (put_ev [2] _ 2 (by omega) (by omega) (by omega) (by simp [pow2]; omega) (by simp)) ?_
    exact Ev.iteT (by simp [putB_length]; omega) (Ev.now _)
  · rw [if_neg c]
    exact Ev.iteF (by simp [c]) (Ev.now _)
theorem lives_ev : Ev (fun k => terrierlaw13_lives.f k) true := by
  unfold terrierlaw13_lives.f
  refine Ev.bind (Tomb_ev [97]) ?_
  have e : (if Named [97] then (tombE [97], (0 : Int)) else ([], 4)) = ([2, 0, 1, 97], 0) := by decide
  rw [e]
  refine Ev.iteT rfl ?_
  have e2 : ((strOfNums [2, 0, 1, 97]).toList == ([2, 0, 1, 97] : List UInt8)) = true := by
    rw [toList_map]; decide
  rw [e2]
  exact Ev.now _
def RightP (k v : List Int) (c m n l : Int) : Prop := Named k ∧ v.length ≤ 1024 ∧ (1 ≤ c ∧ c ≤ 4611686018427387904) ∧ (c ≤ m ∧ m ≤ 4611686018427387904) ∧ (1 ≤ n ∧ n ≤ 4611686018427387904) ∧ 0 ≤ l ∧ l ≤ 4611686018427387904
instance (k v : List Int) (c m n l : Int) : Decidable (RightP k v c m n l) := inferInstanceAs (Decidable (_ ∧ _))
theorem within_eq (a b : Int) : record_within.f a b = some (decide (b ≤ a ∧ a ≤ 4611686018427387904)) := by
  unfold record_within.f
  by_cases c : a ≥ b
  · rw [if_pos c]
    have : b ≤ a := c
    simp [this]
  · rw [if_neg c]
    have : ¬ b ≤ a := c
    simp [this]
theorem Right_eq (k v : List Int) (c m n l : Int) : record_Right.f k v c m n l = some (decide (RightP k v c m n l)) := by
  unfold record_Right.f RightP
  rw [key_eq, within_eq, within_eq, within_eq, within_eq]
  by_cases h1 : Named k
  · by_cases h2 : v.length ≤ 1024
    · have h2' : (v.length : Int) ≤ 1024 := by omega
      by_cases h3 : 1 ≤ c ∧ c ≤ 4611686018427387904
      · by_cases h4 : c ≤ m ∧ m ≤ 4611686018427387904
        · by_cases h5 : 1 ≤ n ∧ n ≤ 4611686018427387904
          · simp [h1, h2, h2', h3, h4, h5]
          · simp [h1, h2, h2', h3, h4, h5]
        · simp [h1, h2, h2', h3, h4]
      · simp [h1, h2, h2', h3]
    · have h2' : ¬ (v.length : Int) ≤ 1024 := by omega
      simp [h1, h2, h2']
  · simp [h1]
def recE (k v : List Int) (c m n l : Int) : List Int := [1] ++ putB (k.length : Int) 2 ++ k ++ putB c 8 ++ putB m 8 ++ putB n 8 ++ putB l 8 ++ putB (v.length : Int) 2 ++ v
def sameR (k v : List Int) (c m n l : Int) (k' v' : List Int) (c' m' n' l' : Int) : Bool := decide (k = k' ∧ v = v' ∧ c = c' ∧ m = m' ∧ n = n' ∧ l = l')
theorem sameR_self (k v : List Int) (c m n l : Int) : sameR k v c m n l k v c m n l = true := by simp [sameR]
end Go.Proofs.Ytapmgeofbjgalaa.Rec
