/- What package rev and the document's answer for it come to, as plain functions. -/
import Derived.Test.YtcpapgfglgaogaaOct
import Derived.Test.YtcpapgfglgaogaaPSx10
import Derived.Test.YtcpapgfglgaogaaPSx13
import Derived.Test.YtcpapgfglgaogaaPSx14
import Derived.Test.YtcpapgfglgaogaaPSx2
import Derived.Test.YtcpapgfglgaogaaPSx22
import Derived.Test.YtcpapgfglgaogaaPSx24
import Derived.Test.YtcpapgfglgaogaaPSx30
import Derived.Test.YtcpapgfglgaogaaPSx31
import Derived.Test.YtcpapgfglgaogaaPSx4
import Derived.Test.YtcpapgfglgaogaaPSx5
import Derived.Test.YtcpapgfglgaogaaPSx6
import Derived.Test.YtcpapgfglgaogaaPSx7
namespace Go.Proofs.Ytcpapgfglgaogaa.Rev
open Go.RowKit Go.Proofs.YtcpapgfglgaogaaW.PrintWords Go.Proofs.YtcpapgfglgaogaaW.PrintMore Go.Proofs.Ytcpapgfglgaogaa.PS Go.Proofs.Ytcpapgfglgaogaa.Base Go.Proofs.Ytcpapgfglgaogaa.Oct

/-- A right revision's numbers. -/
def RightP (m s : Int) : Prop := 1 ≤ m ∧ m ≤ 4611686018427387904 ∧ 0 ≤ s ∧ s ≤ 4611686018427387904
instance (m s : Int) : Decidable (RightP m s) := by unfold RightP; infer_instance
def plainE (m s : Int) : List Int := putB m 8 ++ [95] ++ putB s 8
def encE (m s : Int) (tomb : Bool) : List Int := plainE m s ++ (if tomb = true then [116] else [])
theorem plainE_length (m s : Int) : (plainE m s).length = 17 := by simp [plainE, putB_length]
theorem plainE_bytes (m s : Int) : Bytes (plainE m s) := by
  unfold plainE
  rw [bytes_append, bytes_append]
  exact ⟨⟨putB_bytes _ _, by intro x hx; simp at hx; omega⟩, putB_bytes _ _⟩
theorem encE_length (m s : Int) (t : Bool) : (encE m s t).length = if t = true then 18 else 17 := by
  cases t <;> simp [encE, plainE_length]
theorem encE_bytes (m s : Int) (t : Bool) : Bytes (encE m s t) := by
  unfold encE
  rw [bytes_append]
  refine ⟨plainE_bytes _ _, ?_⟩
  cases t
  · exact bytes_nil
  · intro x hx; simp at hx; omega
theorem cmp_plain {m s m' s' : Int} (l l' : List Int) (h0 : 0 ≤ m) (h1 : m < 18446744073709551616) (h2 : 0 ≤ s) (h3 : s < 18446744073709551616) (k0 : 0 ≤ m') (k1 : m' < 18446744073709551616) (k2 : 0 ≤ s') (k3 : s' < 18446744073709551616) :
    cmpB (plainE m s ++ l) (plainE m' s' ++ l') = if m < m' then -1 else if m' < m then 1 else if s < s' then -1 else if s' < s then 1 else cmpB l l' := by
  have e := pow256_8
  unfold plainE
  simp only [List.append_assoc]
  rw [cmpB_app _ _ _ _ (by simp [putB_length]), cmpB_putB 8 m m' h0 k0 (by omega) (by omega)]
  by_cases c1 : m < m'
  · simp [c1]
  · by_cases c2 : m' < m
    · simp [c1, c2]
    · simp only [c1, c2, if_false, if_true]
      rw [cmpB_app [95] [95] _ _ rfl, cmpB_self, if_pos rfl, cmpB_app _ _ _ _ (by simp [putB_length]), cmpB_putB 8 s s' h2 k2 (by omega) (by omega)]
      by_cases c3 : s < s'
      · simp [c3]
      · by_cases c4 : s' < s
        · simp [c3, c4]
        · simp [c3, c4]

theorem Right_eq (m s : Int) : rev_Right.f m s = some (decide (RightP m s)) := by
  unfold rev_Right.f RightP
  by_cases c1 : 1 ≤ m
  · rw [if_pos (show m ≥ 1 from c1)]
    by_cases c2 : m ≤ 4611686018427387904
    · rw [if_pos c2]
      by_cases c3 : 0 ≤ s
      · rw [if_pos (show s ≥ 0 from c3)]; simp [c1, c2, c3]
      · rw [if_neg (show ¬ s ≥ 0 from c3)]; simp [c3]
    · rw [if_neg c2]; simp [c2]
  · rw [if_neg (show ¬ m ≥ 1 from c1)]; simp [c1]
theorem refRight_eq (m s : Int) : terrierref10_Right.f m s = some (decide (RightP m s)) := by
  unfold terrierref10_Right.f RightP
  by_cases c1 : 1 ≤ m
  · rw [if_pos (show 0 < m by omega)]
    by_cases c2 : m ≤ 4611686018427387904
    · rw [if_pos c2]
      by_cases c3 : 0 ≤ s
      · rw [if_pos c3]; simp [c1, c2, c3]
      · rw [if_neg c3]; simp [c3]
    · rw [if_neg c2]; simp [c2]
  · rw [if_neg (show ¬ 0 < m by omega)]; simp [c1]
theorem putE_8 {n : Int} (h0 : 0 ≤ n) (h1 : n < 18446744073709551616) : putE n 8 = (putB n 8, 0) := by
  unfold putE
  have e := pow256_8
  rw [if_neg (by omega), if_neg (by simp; omega)]; rfl
theorem plain_ev {m s : Int} (h0 : 0 ≤ m) (h1 : m < 18446744073709551616) (h2 : 0 ≤ s) (h3 : s < 18446744073709551616) : Ev (fun k => rev_plain.f k m s) (plainE m s) := by
  unfold rev_plain.f
  rw [wrap_u64_id h0 h1, wrap_u64_id h2 h3]
  refine Ev.bind (Put_ev m 8 h0 h1 (by omega) (by omega)) (Ev.bind (Put_ev s 8 h2 h3 (by omega) (by omega)) ?_)
  rw [putE_8 h0 h1, putE_8 h2 h3]
  refine Ev.iteT (by simp [putB_length]) (Ev.bind0 rfl (Ev.iteT (by simp [putB_length]) ?_))
  exact Ev.now _
theorem Encode_ev (m s : Int) (t : Bool) : Ev (fun k => rev_Encode.f k m s t) (if RightP m s then (encE m s t, 0) else ([], 2)) := by
  unfold rev_Encode.f
  refine Ev.bind0 (Right_eq m s) ?_
  by_cases c : RightP m s
  · rw [if_pos c]
    have c' := c
    obtain ⟨h1, h2, h3, h4⟩ := c'
    refine Ev.iteT (by simp [c]) ?_
    cases t with
    | true =>
      refine Ev.iteT rfl (Ev.bind (plain_ev (by omega) (by omega) (by omega) (by omega)) (Ev.iteT (by simp [plainE_length]) ?_))
      exact Ev.now _
    | false =>
      refine Ev.iteF (by simp) (Ev.bind (plain_ev (by omega) (by omega) (by omega) (by omega)) ?_)
      simpa [encE] using Ev.now _
  · rw [if_neg c]
    exact Ev.iteF (by simp [c]) (Ev.now _)
theorem refEncode_ev {m s : Int} (t : Bool) (h0 : 0 ≤ m) (h1 : m < 18446744073709551616) (h2 : 0 ≤ s) (h3 : s < 18446744073709551616) : Ev (fun k => terrierref10_Encode.f k m s t) (encE m s t) := by
  unfold terrierref10_Encode.f
  rw [wrap_u64_id h0 h1, wrap_u64_id h2 h3]
  have b1 : bytesOf (⟨#[95]⟩ : ByteArray) = [95] := by decide
  have b2 : bytesOf (⟨#[116]⟩ : ByteArray) = [116] := by decide
  rw [b1, b2]
  refine Ev.bind (refPut_ev m 8 h0 h1 (by omega) (by omega)) (Ev.iteT (by simp [putB_length]) (Ev.bind0 rfl (Ev.bind (refPut_ev s 8 h2 h3 (by omega) (by omega)) (Ev.iteT (by simp [putB_length]) (Ev.bind0 rfl ?_)))))
  cases t with
  | true =>
    refine Ev.iteT rfl (Ev.iteT (by simp [putB_length]) ?_)
    exact Ev.now _
  | false =>
    refine Ev.iteF (by simp) ?_
    simpa [encE, plainE] using Ev.now _
theorem lives_ev : Ev (fun k => terrierlaw10_lives.f k) true := by
  unfold terrierlaw10_lives.f
  refine Ev.bind (Encode_ev 1 0 true) ?_
  have e : (if RightP 1 0 then (encE 1 0 true, (0 : Int)) else ([], 2)) = (encE 1 0 true, 0) := if_pos (by decide)
  rw [e]
  refine Ev.iteT rfl (Ev.iteT (by simp [encE_length]) (Ev.iteT (by simp [encE_length]) (Ev.iteT (by decide) (Ev.iteT (by simp [encE_length]) ?_))))
  exact Ev.eq (Ev.now _) (by decide)
def lowE (m : Int) : List Int := if m < 1 then [] else if m > 4611686018427387904 then plainE 4611686018427387904 4611686018427387904 ++ [117] else plainE m 0
theorem lowE_bytes (m : Int) : Bytes (lowE m) := by
  unfold lowE
  split
  · exact bytes_nil
  · split
    · rw [bytes_append]; exact ⟨plainE_bytes _ _, by intro x hx; simp at hx; omega⟩
    · exact plainE_bytes _ _
theorem Low_ev (m : Int) : Ev (fun k => rev_Low.f k m) (lowE m) := by
  unfold rev_Low.f lowE
  by_cases c1 : m < 1
  · rw [if_pos c1]; exact Ev.iteT c1 (Ev.now _)
  · rw [if_neg c1]
    refine Ev.iteF c1 ?_
    by_cases c2 : m > 4611686018427387904
    · rw [if_pos c2]
      refine Ev.iteT c2 (Ev.bind (plain_ev (by omega) (by omega) (by omega) (by omega)) (Ev.iteT (by simp [plainE_length]) ?_))
      exact Ev.now _
    · rw [if_neg c2]
      refine Ev.iteF c2 (Ev.bind (plain_ev (by omega) (by omega) (by omega) (by omega)) ?_)
      exact Ev.now _
theorem refLow_ev (m : Int) : Ev (fun k => terrierref10_Low.f k m) (lowE m) := by
  unfold terrierref10_Low.f lowE
  by_cases c1 : m < 1
  · rw [if_pos c1]; exact Ev.iteT c1 (Ev.now _)
  · rw [if_neg c1]
    refine Ev.iteF c1 ?_
    by_cases c2 : m > 4611686018427387904
    · rw [if_pos c2]
      refine Ev.iteT c2 (Ev.bind (refEncode_ev false (by omega) (by omega) (by omega) (by omega)) (Ev.iteT (by simp [encE_length]) ?_))
      simpa [encE] using Ev.now _
    · rw [if_neg c2]
      refine Ev.iteF c2 (Ev.bind (refEncode_ev false (by omega) (by omega) (by omega) (by omega)) ?_)
      simpa [encE] using Ev.now _
/-- What bytes are as a revision: the numbers, a tombstone's?, none's (false). -/
def decE (l : List Int) : Int × Int × Bool × Bool :=
  let m := wrap64 (getB (l.take 8)); let s := wrap64 (getB ((l.drop 9).take 8))
  if (l.length = 17 ∨ l.length = 18) ∧ rd l 8 = 95 ∧ (l.length = 18 → rd l 17 = 116) ∧ RightP m s then (m, s, l.length == 18, true) else (0, 0, false, false)
theorem decE_cases (l : List Int) : (decE l = (wrap64 (getB (l.take 8)), wrap64 (getB ((l.drop 9).take 8)), l.length == 18, true) ∧ (l.length = 17 ∨ l.length = 18) ∧ rd l 8 = 95 ∧ (l.length = 18 → rd l 17 = 116) ∧ RightP (wrap64 (getB (l.take 8))) (wrap64 (getB ((l.drop 9).take 8)))) ∨ (decE l = (0, 0, false, false) ∧ ¬ ((l.length = 17 ∨ l.length = 18) ∧ rd l 8 = 95 ∧ (l.length = 18 → rd l 17 = 116) ∧ RightP (wrap64 (getB (l.take 8))) (wrap64 (getB ((l.drop 9).take 8))))) := by
  by_cases c : (l.length = 17 ∨ l.length = 18) ∧ rd l 8 = 95 ∧ (l.length = 18 → rd l 17 = 116) ∧ RightP (wrap64 (getB (l.take 8))) (wrap64 (getB ((l.drop 9).take 8)))
  · exact Or.inl ⟨if_pos c, c⟩
  · exact Or.inr ⟨if_neg c, c⟩
theorem Decode_ev {l : List Int} (hb : Bytes l) (hl : l.length ≤ 140737488351232) :
    Ev (fun k => rev_Decode.f k l) ((decE l).1, (decE l).2.1, (decE l).2.2.1, if (decE l).2.2.2 = true then 0 else 4) := by
  unfold rev_Decode.f
  have bad : Ev (fun k => rev_Decode.j0 k l true) (0, 0, false, 4) := by
    refine Ev.step (fun k => by rw [rev_Decode.j0]) ?_
    exact Ev.iteT rfl (Ev.now _)
  have no : ∀ h : ¬ ((l.length = 17 ∨ l.length = 18) ∧ rd l 8 = 95 ∧ (l.length = 18 → rd l 17 = 116) ∧ RightP (wrap64 (getB (l.take 8))) (wrap64 (getB ((l.drop 9).take 8)))), ((decE l).1, (decE l).2.1, (decE l).2.2.1, if (decE l).2.2.2 = true then (0 : Int) else 4) = (0, 0, false, 4) := by
    intro h
    have : decE l = (0, 0, false, false) := by unfold decE; exact if_neg h
    rw [this]; rfl
  have good : (l.length = 17 ∨ l.length = 18) → rd l 8 = 95 → (l.length = 18 → rd l 17 = 116) → Ev (fun k => rev_Decode.j0 k l false) ((decE l).1, (decE l).2.1, (decE l).2.2.1, if (decE l).2.2.2 = true then (0 : Int) else 4) := by
    intro h1 h2 h3
    refine Ev.step (fun k => by rw [rev_Decode.j0]) ?_
    refine Ev.iteF (by simp) (Ev.bind (Get_ev l 0 8 hb (by omega) (by omega) (by omega) (by omega) (by omega)) (Ev.bind (Get_ev l 9 8 hb (by omega) (by omega) (by omega) (by omega) (by omega)) ?_))
    have g1 : getE l 0 8 = (getB (l.take 8), 0) := by unfold getE; rw [if_neg (by omega), if_neg (by omega)]; simp
    have g2 : getE l 9 8 = (getB ((l.drop 9).take 8), 0) := by unfold getE; rw [if_neg (by omega), if_neg (by omega)]; rfl
    rw [g1, g2]
    refine Ev.bind0 (Right_eq _ _) ?_
    by_cases c : RightP (wrap64 (getB (l.take 8))) (wrap64 (getB ((l.drop 9).take 8)))
    · have e : decE l = (wrap64 (getB (l.take 8)), wrap64 (getB ((l.drop 9).take 8)), l.length == 18, true) := by unfold decE; exact if_pos ⟨h1, h2, h3, c⟩
      rw [e]
      refine Ev.iteT (by simp [c]) (Ev.eq (Ev.now _) ?_)
      have : ((l.length : Int) == 18) = (l.length == 18) := by
        by_cases z : l.length = 18
        · simp [z]
        · have z' : ¬ (l.length : Int) = 18 := by omega
          rw [beq_eq_false_iff_ne.2 z, beq_eq_false_iff_ne.2 z']
      rw [this]; rfl
    · rw [no (fun h => c h.2.2.2)]
      exact Ev.iteF (by simp [c]) (Ev.now _)
  by_cases c1 : (l.length : Int) < 17
  · rw [no (fun h => by omega)]; exact Ev.iteT c1 bad
  refine Ev.iteF c1 ?_
  by_cases c2 : (l.length : Int) > 18
  · rw [no (fun h => by omega)]; exact Ev.iteT c2 bad
  refine Ev.iteF c2 (Ev.iteT (by omega) ?_)
  by_cases c3 : rd l 8 = 95
  · refine Ev.iteT c3 ?_
    by_cases c4 : (l.length : Int) = 18
    · refine Ev.iteT c4 (Ev.iteT (by omega) ?_)
      by_cases c5 : rd l 17 = 116
      · rw [c5]; exact good (by omega) c3 (fun _ => c5)
      · rw [no (fun h => c5 (h.2.2.1 (by omega))), show (rd l 17 != 116) = true by simp [c5]]; exact bad
    · exact Ev.iteF c4 (good (by omega) c3 (fun h => by omega))
  · rw [no (fun h => c3 h.2.1)]; exact Ev.iteF c3 bad
/-- A revision comes back from its bytes. -/
theorem decE_encE {m s : Int} (t : Bool) (h : RightP m s) : decE (encE m s t) = (m, s, t, true) := by
  have h' := h
  obtain ⟨h1, h2, h3, h4⟩ := h'
  have e := pow256_8
  have e1 : (encE m s t).take 8 = putB m 8 := by
    unfold encE plainE; rw [List.append_assoc, List.append_assoc, List.take_left' (putB_length 8 m)]
  have e2 : ((encE m s t).drop 9).take 8 = putB s 8 := by
    unfold encE plainE
    rw [List.append_assoc, List.drop_left' (by simp [putB_length]), List.take_left' (putB_length 8 s)]
  have e3 : rd (encE m s t) 8 = 95 := by
    unfold encE plainE
    simp [rd, List.getD_eq_getElem?_getD, putB_length]
  have e4 : (encE m s t).length = 18 → rd (encE m s t) 17 = 116 := by
    rw [encE_length]
    cases t with
    | false => simp
    | true =>
      intro _
      unfold encE plainE
      simp [rd, List.getD_eq_getElem?_getD, putB_length]
  unfold decE
  simp only [e1, e2]
  rw [getB_putB_id (by omega) (by omega), getB_putB_id (by omega) (by omega), wrap64_id (by omega) (by omega), wrap64_id (by omega) (by omega)]
  rw [if_pos ⟨by rw [encE_length]; cases t <;> simp, e3, e4, h⟩, encE_length]
  cases t <;> rfl
/-- Bytes that are a revision's are just its bytes. -/
theorem encE_decE {l : List Int} (hb : Bytes l) (h : (decE l).2.2.2 = true) : encE (decE l).1 (decE l).2.1 (decE l).2.2.1 = l ∧ RightP (decE l).1 (decE l).2.1 := by
  by_cases c : (l.length = 17 ∨ l.length = 18) ∧ rd l 8 = 95 ∧ (l.length = 18 → rd l 17 = 116) ∧ RightP (wrap64 (getB (l.take 8))) (wrap64 (getB ((l.drop 9).take 8)))
  · have e : decE l = (wrap64 (getB (l.take 8)), wrap64 (getB ((l.drop 9).take 8)), l.length == 18, true) := by unfold decE; exact if_pos c
    rw [e]
    obtain ⟨h1, h2, h3, h4⟩ := c
    refine ⟨?_, h4⟩
    have b1 := getB_bound (bytes_take hb 8)
    have b2 := getB_bound (bytes_take (bytes_drop hb 9) 8)
    have l1 : (l.take 8).length = 8 := by simp; omega
    have l2 : ((l.drop 9).take 8).length = 8 := by simp; omega
    have e8 := pow256_8
    rw [l1] at b1
    rw [l2] at b2
    have w1 : wrap64 (getB (l.take 8)) = getB (l.take 8) := by
      have := h4.1
      unfold wrap64 at this ⊢
      omega
    have w2 : wrap64 (getB ((l.drop 9).take 8)) = getB ((l.drop 9).take 8) := by
      have := h4.2.2.1
      unfold wrap64 at this ⊢
      omega
    show encE (wrap64 (getB (l.take 8))) (wrap64 (getB ((l.drop 9).take 8))) (l.length == 18) = l
    rw [w1, w2]
    unfold encE plainE
    rw [putB_getB 8 _ l1 (bytes_take hb 8), putB_getB 8 _ l2 (bytes_take (bytes_drop hb 9) 8)]
    have s1 : l = l.take 8 ++ l.drop 8 := (List.take_append_drop 8 l).symm
    have h2' : rd l ((8 : Nat) : Int) = 95 := h2
    have s2 : l.drop 8 = [95] ++ l.drop 9 := by rw [rd_drop (by omega : 8 < l.length), h2']; rfl
    have s3 : l.drop 9 = (l.drop 9).take 8 ++ l.drop 17 := by
      have := (List.take_append_drop 8 (l.drop 9)).symm
      rwa [List.drop_drop] at this
    have s4 : (if (l.length == 18) = true then [116] else ([] : List Int)) = l.drop 17 := by
      rcases h1 with h1 | h1
      · rw [List.drop_of_length_le (by omega)]; simp [h1]
      · have h3' : rd l ((17 : Nat) : Int) = 116 := h3 h1
        rw [rd_drop (by omega : 17 < l.length), List.drop_of_length_le (by omega : l.length ≤ 17 + 1), h3']
        simp [h1]
    rw [s4, List.append_assoc, List.append_assoc, ← s3, ← s2, ← s1]
  · exfalso
    have : decE l = (0, 0, false, false) := by unfold decE; exact if_neg c
    rw [this] at h
    simp at h
theorem refDecode_ev {l : List Int} (hb : Bytes l) (hl : l.length ≤ 140737488351232) : Ev (fun k => terrierref10_Decode.f k l) (decE l) := by
  unfold terrierref10_Decode.f
  by_cases cl : l.length = 17 ∨ l.length = 18
  · have main : Ev (fun k => terrierref10_Decode.j0 k l false) (decE l) := by
      refine Ev.step (fun k => by rw [terrierref10_Decode.j0]) ?_
      refine Ev.iteF (by simp) (Ev.bind (refGet_ev l 0 8 hb (by omega) (by omega) (by omega) (by omega) (by omega)) (Ev.bind (refGet_ev l 9 8 hb (by omega) (by omega) (by omega) (by omega) (by omega)) ?_))
      have g1 : getE l 0 8 = (getB (l.take 8), 0) := by unfold getE; rw [if_neg (by omega), if_neg (by omega)]; simp
      have g2 : getE l 9 8 = (getB ((l.drop 9).take 8), 0) := by unfold getE; rw [if_neg (by omega), if_neg (by omega)]; rfl
      rw [g1, g2]
      dsimp only
      refine Ev.bind0 (refRight_eq _ _) ?_
      have t18 : ((l.length : Int) == 18) = (l.length == 18) := by
        by_cases z : l.length = 18
        · simp [z]
        · have z' : ¬ (l.length : Int) = 18 := by omega
          rw [beq_eq_false_iff_ne.2 z, beq_eq_false_iff_ne.2 z']
      by_cases c : RightP (wrap64 (getB (l.take 8))) (wrap64 (getB ((l.drop 9).take 8)))
      · have c' := c
        obtain ⟨h1, h2, h3, h4⟩ := c'
        refine Ev.iteT (by simp [c]) (Ev.bind (refEncode_ev _ (by omega) (by omega) (by omega) (by omega)) (Ev.bind0 (Same_eq (encE_bytes _ _ _) hb) ?_))
        rw [t18]
        by_cases q : encE (wrap64 (getB (l.take 8))) (wrap64 (getB ((l.drop 9).take 8))) (l.length == 18) = l
        · have d := decE_encE (l.length == 18) c
          rw [q] at d
          rw [d]
          exact Ev.iteT (by simp [q]) (Ev.now _)
        · refine Ev.iteF (by simp [q]) ?_
          have : decE l = (0, 0, false, false) := by
            rcases decE_cases l with ⟨d, _⟩ | ⟨d, _⟩
            · exfalso
              have e := encE_decE hb (by rw [d])
              rw [d] at e
              exact q e.1
            · exact d
          rw [this]; exact Ev.now _
      · have : decE l = (0, 0, false, false) := by unfold decE; exact if_neg (fun h => c h.2.2.2)
        rw [this]
        exact Ev.iteF (by simp [c]) (Ev.now _)
    by_cases c1 : (l.length : Int) = 17
    · exact Ev.iteT c1 main
    · refine Ev.iteF c1 ?_
      have e18 : (l.length : Int) = 18 := by omega
      have f18 : ((l.length : Int) != 18) = false := by simp [e18]
      rw [f18]
      exact main
  · have : decE l = (0, 0, false, false) := by unfold decE; exact if_neg (fun h => cl h.1)
    rw [this]
    refine Ev.iteF (by omega) ?_
    have e18 : ¬ (l.length : Int) = 18 := by omega
    have f18 : ((l.length : Int) != 18) = true := by simp [e18]
    rw [f18]
    refine Ev.step (fun k => by rw [terrierref10_Decode.j0]) ?_
    exact Ev.iteT rfl (Ev.now _)
def cmpR (a b c d : Int) : Int := if a < c then -1 else if c < a then 1 else if b < d then -1 else if d < b then 1 else 0
theorem Cmp64_eq (a b : Int) : cmp_Compare_int64.f a b = some (if a < b then -1 else if b < a then 1 else 0) := by
  unfold cmp_Compare_int64.f cmp_isNaN_int64.f
  simp only [Option.bind_some, bne_self_eq_false, Bool.false_eq_true, if_false, gt_iff_lt]
  split
  · rfl
  · split <;> rfl
theorem Or_ev (x y : Int) : Ev (fun k => cmp_Or_int.f k [x, y]) (if x = 0 then y else x) := by
  unfold cmp_Or_int.f
  have r0 : rd [x, y] 0 = x := rfl
  have r1 : rd [x, y] 1 = y := rfl
  have w0 : wrap64 (0 + 1) = 1 := by unfold wrap64; omega
  have w1 : wrap64 (1 + 1) = 2 := by unfold wrap64; omega
  refine Ev.step (fun k => by rw [cmp_Or_int.l0]) ?_
  refine Ev.iteT (by simp) (Ev.iteT (by omega) (Ev.iteT (by simp) ?_))
  rw [r0, w0]
  by_cases c : x = 0
  · rw [if_pos c]
    refine Ev.iteT c (Ev.step (fun k => by rw [cmp_Or_int.l0]) ?_)
    refine Ev.iteT (by simp) (Ev.iteT (by omega) (Ev.iteT (by simp) ?_))
    rw [r1, w1]
    by_cases d : y = 0
    · refine Ev.iteT d (Ev.step (fun k => by rw [cmp_Or_int.l0]) ?_)
      rw [d]
      exact Ev.iteF (by simp) (Ev.now _)
    · exact Ev.iteF d (Ev.now _)
  · rw [if_neg c]
    exact Ev.iteF c (Ev.now _)
theorem Compare_ev (a b c d : Int) : Ev (fun k => rev_Compare.f k a b c d) (cmpR a b c d) := by
  unfold rev_Compare.f
  refine Ev.bind0 (Cmp64_eq a c) (Ev.bind0 (Cmp64_eq b d) (Ev.bind (Or_ev _ _) (Ev.eq (Ev.now _) ?_)))
  unfold cmpR
  by_cases h1 : a < c
  · simp [h1]
  · by_cases h2 : c < a
    · simp [h1, h2]
    · simp [h1, h2]
theorem refAhead_eq (a b c d : Int) : terrierref10_Ahead.f a b c d = some (decide (a < c ∨ a = c ∧ b < d)) := by
  unfold terrierref10_Ahead.f
  by_cases h1 : a < c
  · simp [h1]
  · by_cases h2 : a = c
    · rw [if_neg h1, if_pos h2]; simp [h1, h2]
    · rw [if_neg h1, if_neg h2]; simp [h1, h2]
end Go.Proofs.Ytcpapgfglgaogaa.Rev
