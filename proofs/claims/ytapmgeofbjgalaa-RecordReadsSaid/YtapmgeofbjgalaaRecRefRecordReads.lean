/- What the document's functions for the layer of package record compute, as plain lists of bytes. -/
import Derived.Test.YtapmgeofbjgalaaOctRecordReads
import Derived.Test.YtapmgeofbjgalaaRecRecordReads
import Derived.Test.YtapmgeofbjgalaaPRx12
import Derived.Test.YtapmgeofbjgalaaPRx13
import Derived.Test.YtapmgeofbjgalaaPRx14
import Derived.Test.YtapmgeofbjgalaaPRx3
namespace Go.Proofs.Ytapmgeofbjgalaa.RecRef
open Go.RowKit Go.Proofs.YtapmgeofbjgalaaW.PrintWords Go.Proofs.YtapmgeofbjgalaaW.PrintLast Go.Proofs.YtapmgeofbjgalaaW.PrintMore Go.Proofs.Ytapmgeofbjgalaa.PR Go.Proofs.Ytapmgeofbjgalaa.Base Go.Proofs.Ytapmgeofbjgalaa.Oct Go.Proofs.Ytapmgeofbjgalaa.Rec

theorem refRight_eq (k v : List Int) (c m n l : Int) : terrierref13_Right.f k v c m n l = some (decide (RightP k v c m n l)) := by
  unfold terrierref13_Right.f
  by_cases h1 : (k.length : Int) = 0
  · rw [if_pos h1]; exact congrArg some (decide_eq_false (by unfold RightP Named; omega)).symm
  rw [if_neg h1]
  by_cases h2 : (k.length : Int) > 64
  · rw [if_pos h2]; exact congrArg some (decide_eq_false (by unfold RightP Named; omega)).symm
  rw [if_neg h2]
  by_cases h3 : (v.length : Int) > 1024
  · rw [if_pos h3]; exact congrArg some (decide_eq_false (by unfold RightP Named; omega)).symm
  rw [if_neg h3]
  by_cases h4 : c < 1
  · rw [if_pos h4]; exact congrArg some (decide_eq_false (by unfold RightP Named; omega)).symm
  rw [if_neg h4]
  by_cases h5 : m < c
  · rw [if_pos h5]; exact congrArg some (decide_eq_false (by unfold RightP Named; omega)).symm
  rw [if_neg h5]
  by_cases h6 : m > 4611686018427387904
  · rw [if_pos h6]; exact congrArg some (decide_eq_false (by unfold RightP Named; omega)).symm
  rw [if_neg h6]
  by_cases h7 : n ≥ 1
  · rw [if_pos h7]
    by_cases h8 : n ≤ 4611686018427387904
    · rw [if_pos h8]
      by_cases h9 : l ≥ 0
      · rw [if_pos h9]; exact congrArg some (decide_eq_decide.2 (by unfold RightP Named; omega))
      · rw [if_neg h9]; exact congrArg some (decide_eq_false (by unfold RightP Named; omega)).symm
    · rw [if_neg h8]; exact congrArg some (decide_eq_false (by unfold RightP Named; omega)).symm
  · rw [if_neg h7]; exact congrArg some (decide_eq_false (by unfold RightP Named; omega)).symm
theorem text_ev (l : List Int) (hl : l.length ≤ 65535) : Ev (fun q => terrierref13_text.f q l) (putB (l.length : Int) 2 ++ l) := by
  unfold terrierref13_text.f
  rw [wrap_u64_id (by omega) (by omega)]
  refine Ev.bind (refPut_ev _ 2 (by omega) (by omega) (by omega) (by omega)) ?_
  exact Ev.iteT (by simp [putB_length]; omega) (Ev.now _)
theorem refTomb_ev (k : List Int) (hl : k.length ≤ 65535) : Ev (fun q => terrierref13_Tomb.f q k) (tombE k) := by
  unfold terrierref13_Tomb.f
  refine Ev.bind0 rfl (Ev.bind (text_ev k hl) ?_)
  refine Ev.eq (Ev.iteT (by simp [putB_length]; omega) (Ev.now _)) ?_
  simp [tombE]
theorem refEncode_ev (k v : List Int) (c m n l : Int) (h : RightP k v c m n l) : Ev (fun q => terrierref13_Encode.f q k v c m n l) (recE k v c m n l) := by
  obtain ⟨⟨a1, a2⟩, a3, a4, a5, a6, a7⟩ := id h
  unfold terrierref13_Encode.f
  rw [wrap_u64_id (n := c) (by omega) (by omega), wrap_u64_id (n := m) (by omega) (by omega), wrap_u64_id (n := n) (by omega) (by omega), wrap_u64_id (n := l) (by omega) (by omega)]
  have t8 : (8 : Int).toNat = 8 := rfl
  have P := fun (z : Int) (z0 : 0 ≤ z) (z1 : z < 18446744073709551616) => refPut_ev z 8 z0 z1 (by omega) (by omega)
  refine Ev.bind0 rfl (Ev.bind (text_ev k (by omega)) (Ev.iteT (by simp [putB_length]; omega) ?_))
  refine Ev.bind0 rfl (Ev.bind (P c (by omega) (by omega)) (Ev.iteT (by simp [putB_length]; omega) ?_))
  refine Ev.bind0 rfl (Ev.bind (P m (by omega) (by omega)) (Ev.iteT (by simp [putB_length]; omega) ?_))
  refine Ev.bind0 rfl (Ev.bind (P n (by omega) (by omega)) (Ev.iteT (by simp [putB_length]; omega) ?_))
  refine Ev.bind0 rfl (Ev.bind (P l (by omega) (by omega)) (Ev.iteT (by simp [putB_length]; omega) ?_))
  refine Ev.bind0 rfl (Ev.bind (text_ev v (by omega)) ?_)
  refine Ev.eq (Ev.iteT (by simp [putB_length]; omega) (Ev.now _)) ?_
  simp [recE]
theorem refSame_eq {k v k' v' : List Int} (hk : Bytes k) (hv : Bytes v) (hk' : Bytes k') (hv' : Bytes v') (c m n l c' m' n' l' : Int) : terrierref13_Same.f k v c m n l k' v' c' m' n' l' = some (sameR k v c m n l k' v' c' m' n' l') := by
  unfold terrierref13_Same.f sameR
  rw [Same_eq hk hk', Same_eq hv hv']
  by_cases h1 : k = k'
  · by_cases h2 : v = v'
    · by_cases h3 : c = c'
      · by_cases h4 : m = m'
        · by_cases h5 : n = n'
          · by_cases h6 : l = l' <;> simp [h1, h2, h3, h4, h5, h6]
          · simp [h1, h2, h3, h4, h5]
        · simp [h1, h2, h3, h4]
      · simp [h1, h2, h3]
    · simp [h1, h2]
  · simp [h1]
end Go.Proofs.Ytapmgeofbjgalaa.RecRef
