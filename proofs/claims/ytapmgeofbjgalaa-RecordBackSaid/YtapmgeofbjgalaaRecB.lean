/- What the functions of package record, and the document's for its layer, compute, as plain lists of bytes. -/
import Derived.Test.YtapmgeofbjgalaaOctB
import Derived.Test.YtapmgeofbjgalaaPSx10
import Derived.Test.YtapmgeofbjgalaaPSx11
import Derived.Test.YtapmgeofbjgalaaPSx2
import Derived.Test.YtapmgeofbjgalaaPSx24
import Derived.Test.YtapmgeofbjgalaaPSx3
import Derived.Test.YtapmgeofbjgalaaPSx4
import Derived.Test.YtapmgeofbjgalaaPSx5
import Derived.Test.YtapmgeofbjgalaaPSx6
import Derived.Test.YtapmgeofbjgalaaPSx9
namespace Go.Proofs.Ytapmgeofbjgalaa.Rec
open Go.RowKit Go.Proofs.YtapmgeofbjgalaaW.PrintWords Go.Proofs.YtapmgeofbjgalaaW.PrintLast Go.Proofs.YtapmgeofbjgalaaW.PrintMore Go.Proofs.Ytapmgeofbjgalaa.PS Go.Proofs.Ytapmgeofbjgalaa.Base Go.Proofs.Ytapmgeofbjgalaa.Oct

theorem pow2 : (256 : Int) ^ 2 = 65536 := by decide
theorem put_ev (l : List Int) (n size : Int) (hs1 : 1 ≤ size) (hs8 : size ≤ 8) (h0 : 0 ≤ n) (h1 : n < 256 ^ size.toNat) (hl : l.length ≤ 100000) : Ev (fun k => record_put.f k l n size) (l ++ putB n size.toNat) := by
  have h2 := pow256_le (d := size.toNat) (by omega)
  unfold record_put.f
  refine Ev.bind (Put_ev n size h0 (by omega) (by omega) (by omega)) ?_
  have e : putE n size = (putB n size.toNat, 0) := by
    unfold putE
    rw [if_neg (by omega), if_neg (by rw [Int.ediv_eq_zero_of_lt h0 h1]; simp)]
  rw [e]
  exact Ev.iteT (by simp [putB_length]; omega) (Ev.now _)
def tombE (k : List Int) : List Int := [2] ++ putB (k.length : Int) 2 ++ k
def Named (k : List Int) : Prop := 1 ≤ k.length ∧ k.length ≤ 64
instance (k : List Int) : Decidable (Named k) := inferInstanceAs (Decidable (_ ∧ _))
theorem key_eq (k : List Int) : record_key.f k = some (decide (Named k)) := by
  unfold record_key.f Named
  by_cases c : (k.length : Int) ≥ 1
  · rw [if_pos c]
    have : 1 ≤ k.length := by omega
    simp [this]
    omega
  · rw [if_neg c]
    have : ¬ 1 ≤ k.length := by omega
    simp [this]
theorem Tomb_ev (k : List Int) : Ev (fun n => record_Tomb.f n k) (if Named k then (tombE k, 0) else ([], 4)) := by
  unfold record_Tomb.f
  refine Ev.bind0 (key_eq k) ?_
  by_cases c : Named k
  · obtain ⟨h1, h2⟩ := id c
    rw [if_pos c]
    refine Ev.iteT (by simp [c]) ?_
    rw [wrap_u64_id (by omega) (by omega)]
    refine Ev.bind (put_ev [2] _ 2 (by omega) (by omega) (by omega) (by simp [pow2]; omega) (by simp)) ?_
    exact Ev.iteT (by simp [putB_length]; omega) (Ev.now _)
  · rw [if_neg c]
    exact Ev.iteF (by simp [c]) (Ev.now _)
theorem lives_ev : Ev (fun k => terrierlaw13_lives.f k) true := by
  unfold terrierlaw13_lives.f
  refine Ev.bind (Tomb_ev [97]) ?_
  have e : (if Named [97] then (tombE [97], (0 : Int)) else ([], 4)) = ([2, 0, 1, 97], 0) := by decide
  rw [e]
  refine Ev.iteT rfl ?_
  have e2 : ((strOfNums [2, 0, 1, 97]).toList == ([2, 0, 1, 97] : List UInt8)) = true := by
    rw [toList_map]; decide
  rw [e2]
  exact Ev.now _
def RightP (k v : List Int) (c m n l : Int) : Prop := Named k ∧ v.length ≤ 1024 ∧ (1 ≤ c ∧ c ≤ 4611686018427387904) ∧ (c ≤ m ∧ m ≤ 4611686018427387904) ∧ (1 ≤ n ∧ n ≤ 4611686018427387904) ∧ 0 ≤ l ∧ l ≤ 4611686018427387904
instance (k v : List Int) (c m n l : Int) : Decidable (RightP k v c m n l) := inferInstanceAs (Decidable (_ ∧ _))
theorem within_eq (a b : Int) : record_within.f a b = some (decide (b ≤ a ∧ a ≤ 4611686018427387904)) := by
  unfold record_within.f
  by_cases c : a ≥ b
  · rw [if_pos c]
    have : b ≤ a := c
    simp [this]
  · rw [if_neg c]
    have : ¬ b ≤ a := c
    simp [this]
theorem Right_eq (k v : List Int) (c m n l : Int) : record_Right.f k v c m n l = some (decide (RightP k v c m n l)) := by
  unfold record_Right.f RightP
  rw [key_eq, within_eq, within_eq, within_eq, within_eq]
  by_cases h1 : Named k
  · by_cases h2 : v.length ≤ 1024
    · have h2' : (v.length : Int) ≤ 1024 := by omega
      by_cases h3 : 1 ≤ c ∧ c ≤ 4611686018427387904
      · by_cases h4 : c ≤ m ∧ m ≤ 4611686018427387904
        · by_cases h5 : 1 ≤ n ∧ n ≤ 4611686018427387904
          · simp [h1, h2, h2', h3, h4, h5]
          · simp [h1, h2, h2', h3, h4, h5]
        · simp [h1, h2, h2', h3, h4]
      · simp [h1, h2, h2', h3]
    · have h2' : ¬ (v.length : Int) ≤ 1024 := by omega
      simp [h1, h2, h2']
  · simp [h1]
def recE (k v : List Int) (c m n l : Int) : List Int := [1] ++ putB (k.length : Int) 2 ++ k ++ putB c 8 ++ putB m 8 ++ putB n 8 ++ putB l 8 ++ putB (v.length : Int) 2 ++ v
theorem Encode_ev (k v : List Int) (c m n l : Int) : Ev (fun q => record_Encode.f q k v c m n l) (if RightP k v c m n l then (recE k v c m n l, 0) else ([], 4)) := by
  unfold record_Encode.f
  refine Ev.bind0 (Right_eq k v c m n l) ?_
  by_cases h : RightP k v c m n l
  · obtain ⟨⟨a1, a2⟩, a3, a4, a5, a6, a7⟩ := id h
    rw [if_pos h]
    refine Ev.iteT (by simp [h]) ?_
    rw [wrap_u64_id (by omega) (by omega)]
    refine Ev.bind (put_ev [1] _ 2 (by omega) (by omega) (by omega) (by simp [pow2]; omega) (by simp)) ?_
    refine Ev.iteT (by simp [putB_length]; omega) (Ev.bind0 rfl ?_)
    have p8 : (256 : Int) ^ (8 : Int).toNat = 18446744073709551616 := by decide
    have w1 : wrap64 (0 + 1) = 1 := by unfold wrap64; omega
    have w2 : wrap64 (1 + 1) = 2 := by unfold wrap64; omega
    have w3 : wrap64 (2 + 1) = 3 := by unfold wrap64; omega
    have w4 : wrap64 (3 + 1) = 4 := by unfold wrap64; omega
    have r0 : rd [c, m, n, l] 0 = c := rfl
    have r1 : rd [c, m, n, l] 1 = m := rfl
    have r2 : rd [c, m, n, l] 2 = n := rfl
    have r3 : rd [c, m, n, l] 3 = l := rfl
    refine Ev.step (fun k => by rw [record_Encode.l0]) (Ev.iteT (by simp) (Ev.iteT (by omega) (Ev.iteT (by simp) ?_)))
    rw [r0, w1, wrap_u64_id (n := c) (by omega) (by omega)]
    refine Ev.bind (put_ev _ c 8 (by omega) (by omega) (by omega) (by rw [p8]; omega) (by simp [putB_length]; omega)) ?_
    refine Ev.step (fun k => by rw [record_Encode.l0]) (Ev.iteT (by simp) (Ev.iteT (by omega) (Ev.iteT (by simp) ?_)))
    rw [r1, w2, wrap_u64_id (n := m) (by omega) (by omega)]
    refine Ev.bind (put_ev _ m 8 (by omega) (by omega) (by omega) (by rw [p8]; omega) (by simp [putB_length]; omega)) ?_
    refine Ev.step (fun k => by rw [record_Encode.l0]) (Ev.iteT (by simp) (Ev.iteT (by omega) (Ev.iteT (by simp) ?_)))
    rw [r2, w3, wrap_u64_id (n := n) (by omega) (by omega)]
    refine Ev.bind (put_ev _ n 8 (by omega) (by omega) (by omega) (by rw [p8]; omega) (by simp [putB_length]; omega)) ?_
    refine Ev.step (fun k => by rw [record_Encode.l0]) (Ev.iteT (by simp) (Ev.iteT (by omega) (Ev.iteT (by simp) ?_)))
    rw [r3, w4, wrap_u64_id (n := l) (by omega) (by omega)]
    refine Ev.bind (put_ev _ l 8 (by omega) (by omega) (by omega) (by rw [p8]; omega) (by simp [putB_length]; omega)) ?_
    refine Ev.step (fun k => by rw [record_Encode.l0]) (Ev.iteF (by simp) ?_)
    rw [wrap_u64_id (n := (v.length : Int)) (by omega) (by omega)]
    refine Ev.bind (put_ev _ _ 2 (by omega) (by omega) (by omega) (by simp [pow2]; omega) (by simp [putB_length]; omega)) ?_
    exact Ev.iteT (by simp [putB_length]; omega) (Ev.now _)
  · rw [if_neg h]
    exact Ev.iteF (by simp [h]) (Ev.now _)
def sameR (k v : List Int) (c m n l : Int) (k' v' : List Int) (c' m' n' l' : Int) : Bool := decide (k = k' ∧ v = v' ∧ c = c' ∧ m = m' ∧ n = n' ∧ l = l')
theorem Same_eq' {k v k' v' : List Int} (hk : Bytes k) (hv : Bytes v) (hk' : Bytes k') (hv' : Bytes v') (c m n l c' m' n' l' : Int) : record_Same.f k v c m n l k' v' c' m' n' l' = some (sameR k v c m n l k' v' c' m' n' l') := by
  unfold record_Same.f sameR
  rw [Equal_eq hk hk', Equal_eq hv hv']
  by_cases h1 : k = k'
  · by_cases h2 : v = v'
    · by_cases h3 : c = c'
      · by_cases h4 : m = m'
        · by_cases h5 : n = n'
          · by_cases h6 : l = l' <;> simp [h1, h2, h3, h4, h5, h6]
          · simp [h1, h2, h3, h4, h5]
        · simp [h1, h2, h3, h4]
      · simp [h1, h2, h3]
    · simp [h1, h2]
  · simp [h1]
theorem sameR_self (k v : List Int) (c m n l : Int) : sameR k v c m n l k v c m n l = true := by simp [sameR]
theorem few_eq (k v : List Int) (c m n l : Int) : terrierlaw13_few.f k v c m n l = some (decide (k.length ≤ 200 ∧ v.length ≤ 2000)) := by
  unfold terrierlaw13_few.f
  by_cases h : (k.length : Int) ≤ 200
  · rw [if_pos h]; congr 1; rw [decide_eq_decide]; omega
  · rw [if_neg h]; congr 1; symm; rw [decide_eq_false_iff_not]; omega
end Go.Proofs.Ytapmgeofbjgalaa.Rec
