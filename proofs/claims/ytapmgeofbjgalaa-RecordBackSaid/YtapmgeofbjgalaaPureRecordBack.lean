/- A record comes back from its bytes, a tombstone's, too, and no other one has them: the plain statement that is left of the law RecordBack, for any two records. -/
import Derived.Test.YtapmgeofbjgalaaOctB
import Derived.Test.YtapmgeofbjgalaaRecB
import Derived.Test.YtapmgeofbjgalaaRdrB
import Derived.Test.YtapmgeofbjgalaaPSx33
import Derived.Test.YtapmgeofbjgalaaPSx40
namespace Go.Proofs.Ytapmgeofbjgalaa.Pure
open Go.RowKit Go.Proofs.YtapmgeofbjgalaaW.PrintWords Go.Proofs.YtapmgeofbjgalaaW.PrintLast Go.Proofs.YtapmgeofbjgalaaW.PrintMore Go.Proofs.Ytapmgeofbjgalaa.PS Go.Proofs.Ytapmgeofbjgalaa.Base Go.Proofs.Ytapmgeofbjgalaa.Oct Go.Proofs.Ytapmgeofbjgalaa.Rec Go.Proofs.Ytapmgeofbjgalaa.Rdr
theorem recE_length (k v : List Int) (c m n l : Int) : (recE k v c m n l).length = 37 + k.length + v.length := by simp [recE, putB_length]; omega
theorem recE_bytes {k v : List Int} (hk : Bytes k) (hv : Bytes v) (c m n l : Int) : Bytes (recE k v c m n l) := by
  unfold recE
  simp only [bytes_append]
  exact ⟨⟨⟨⟨⟨⟨⟨⟨by intro x hx; simp at hx; omega, putB_bytes _ _⟩, hk⟩, putB_bytes _ _⟩, putB_bytes _ _⟩, putB_bytes _ _⟩, putB_bytes _ _⟩, putB_bytes _ _⟩, hv⟩
theorem tombE_length (k : List Int) : (tombE k).length = 3 + k.length := by simp [tombE, putB_length]; omega
theorem tombE_bytes {k : List Int} (hk : Bytes k) : Bytes (tombE k) := by
  unfold tombE
  simp only [bytes_append]
  exact ⟨⟨by intro x hx; simp at hx; omega, putB_bytes _ _⟩, hk⟩
theorem one_byte (n : Int) (h0 : 0 ≤ n) (h1 : n < 256) : putB n 1 = [n] := by simp [putB]; omega
theorem tomb_dec (k : List Int) (hk : Bytes k) (hN : Named k) : Ev (fun q => record_Decode.f q (tombE k)) (k, [], 0, 0, 0, 0, true, 0) := by
  obtain ⟨n1, n2⟩ := id hN
  have hb := tombE_bytes hk
  have hl := tombE_length k
  have p1 : (256 : Int) ^ 1 = 256 := by decide
  unfold record_Decode.f
  refine Ev.bind0 (New_eq _ (by omega)) ?_
  dsimp only
  refine Ev.bind (Num_at (tombE k) [] (putB (k.length : Int) 2 ++ k) 2 1 (by simp [tombE, one_byte]) hb (by omega) (by omega) (by omega) (by omega) (by omega) 0 rfl 1 rfl) ?_
  dsimp only
  refine Ev.bind (Text_at (tombE k) [2] k [] (by simp [tombE]) hb (by omega) (by omega) 64 (by omega) _ (by simp)) ?_
  dsimp only
  refine Ev.iteF (by decide) (Ev.iteT rfl ?_)
  refine Ev.bind0 (End_at (tombE k) _ (by rw [hl]; simp <;> omega)) ?_
  dsimp only
  refine Ev.iteT rfl (Ev.bind0 (key_eq k) (Ev.iteT (by simpa using hN) (Ev.now _)))
theorem rec_dec (k v : List Int) (c m n l : Int) (hk : Bytes k) (hv : Bytes v) (hR : RightP k v c m n l) : Ev (fun q => record_Decode.f q (recE k v c m n l)) (k, v, c, m, n, l, false, 0) := by
  obtain ⟨⟨n1, n2⟩, v1, ⟨c1, c2⟩, ⟨m1, m2⟩, ⟨a1, a2⟩, l1, l2⟩ := id hR
  have hb := recE_bytes hk hv c m n l
  have hl := recE_length k v c m n l
  have p1 : (256 : Int) ^ 1 = 256 := by decide
  have p8 := pow256_8
  have e : recE k v c m n l = [1] ++ putB (k.length : Int) 2 ++ k ++ putB c 8 ++ putB m 8 ++ putB n 8 ++ putB l 8 ++ putB (v.length : Int) 2 ++ v := rfl
  generalize recE k v c m n l = B at hb hl e
  have w := fun (z : Int) (z0 : 0 ≤ z) (z1 : z ≤ 4611686018427387904) => wrap64_id (n := z) (by omega) (by omega)
  unfold record_Decode.f
  refine Ev.bind0 (New_eq _ (by omega)) ?_
  dsimp only
  refine Ev.bind (Num_at B [] (putB (k.length : Int) 2 ++ k ++ putB c 8 ++ putB m 8 ++ putB n 8 ++ putB l 8 ++ putB (v.length : Int) 2 ++ v) 1 1 (by rw [e]; simp [one_byte]) hb (by omega) (by omega) (by omega) (by omega) (by omega) 0 rfl 1 rfl) ?_
  dsimp only
  refine Ev.bind (Text_at B [1] k (putB c 8 ++ putB m 8 ++ putB n 8 ++ putB l 8 ++ putB (v.length : Int) 2 ++ v) (by rw [e]; simp) hb (by omega) (by omega) 64 (by omega) _ (by simp)) ?_
  dsimp only
  refine Ev.iteT rfl ?_
  refine Ev.bind (Num_at B ([1] ++ putB (k.length : Int) 2 ++ k) (putB m 8 ++ putB n 8 ++ putB l 8 ++ putB (v.length : Int) 2 ++ v) c 8 (by rw [e]; simp) hb (by omega) (by omega) (by omega) (by omega) (by omega) _ (by simp [putB_length]; omega) 8 rfl) ?_
  dsimp only
  refine Ev.bind (Num_at B ([1] ++ putB (k.length : Int) 2 ++ k ++ putB c 8) (putB n 8 ++ putB l 8 ++ putB (v.length : Int) 2 ++ v) m 8 (by rw [e]; simp) hb (by omega) (by omega) (by omega) (by omega) (by omega) _ (by simp [putB_length]; omega) 8 rfl) ?_
  dsimp only
  refine Ev.bind (Num_at B ([1] ++ putB (k.length : Int) 2 ++ k ++ putB c 8 ++ putB m 8) (putB l 8 ++ putB (v.length : Int) 2 ++ v) n 8 (by rw [e]; simp) hb (by omega) (by omega) (by omega) (by omega) (by omega) _ (by simp [putB_length]; omega) 8 rfl) ?_
  dsimp only
  refine Ev.bind (Num_at B ([1] ++ putB (k.length : Int) 2 ++ k ++ putB c 8 ++ putB m 8 ++ putB n 8) (putB (v.length : Int) 2 ++ v) l 8 (by rw [e]; simp) hb (by omega) (by omega) (by omega) (by omega) (by omega) _ (by simp [putB_length]; omega) 8 rfl) ?_
  dsimp only
  refine Ev.bind (Text_at B ([1] ++ putB (k.length : Int) 2 ++ k ++ putB c 8 ++ putB m 8 ++ putB n 8 ++ putB l 8) v [] (by rw [e]; simp) hb (by omega) (by omega) 1024 (by omega) _ (by simp [putB_length]; omega)) ?_
  dsimp only
  refine Ev.bind0 (End_at B _ (by rw [hl]; simp <;> omega)) ?_
  dsimp only
  rw [w c (by omega) c2, w m (by omega) m2, w n (by omega) a2, w l l1 l2]
  refine Ev.iteT rfl (Ev.bind0 (Right_eq k v c m n l) (Ev.iteT (by simpa using hR) (Ev.now _)))
theorem ev_eq {α : Type} {g : Nat → Option α} {r r' : α} (h : Ev g r) (h' : Ev g r') : r = r' := by
  obtain ⟨K, hK⟩ := h
  obtain ⟨K', hK'⟩ := h'
  have a := hK (max K K') (Nat.le_max_left _ _)
  have b := hK' (max K K') (Nat.le_max_right _ _)
  rw [a] at b
  exact Option.some.inj b
theorem RecordBack : terrierlaw13_RecordBack.Pure := by
  intro k v c m n l k' v' c' m' n' l' hk hk'
  obtain ⟨⟨hk1, hk2, _⟩, ⟨hv1, hv2, _⟩, _⟩ := hk
  obtain ⟨⟨hk1', hk2', _⟩, ⟨hv1', hv2', _⟩, _⟩ := hk'
  have hbk : Bytes k := bytes_of_wf hk1
  have hbv : Bytes v := bytes_of_wf hv1
  have hbk' : Bytes k' := bytes_of_wf hk1'
  have hbv' : Bytes v' := bytes_of_wf hv1'
  have hthen : ∀ b : Bool, b = true → Ev (fun q => terrierlaw13_RecordBack.j0 q b k v c m n l k' v' c' m' n' l') true := fun b hb => by
    subst hb
    exact Ev.step (fun q => by rw [terrierlaw13_RecordBack.j0]) (Ev.iteT rfl (Ev.bind lives_ev (Ev.now _)))
  have hend : Ev (fun q => terrierlaw13_RecordBack.j1 q (if RightP k v c m n l then (recE k v c m n l, (0 : Int)) else ([], 4)).1 (if RightP k v c m n l then (recE k v c m n l, (0 : Int)) else ([], 4)).2 k v c m n l k' v' c' m' n' l') true := by
    refine Ev.step (fun q => by rw [terrierlaw13_RecordBack.j1]) ?_
    by_cases hR : RightP k v c m n l
    · rw [if_pos hR]
      refine Ev.iteT rfl (Ev.bind (rec_dec k v c m n l hbk hbv hR) (Ev.bind (Encode_ev k' v' c' m' n' l') ?_))
      dsimp only
      refine Ev.iteT rfl (Ev.iteF (by decide) (Ev.bind0 (Same_eq' hbk hbv hbk hbv c m n l c m n l) ?_))
      rw [sameR_self]
      refine Ev.iteT rfl ?_
      by_cases hR' : RightP k' v' c' m' n' l'
      · rw [if_pos hR']
        refine Ev.iteT rfl (Ev.bind0 (Same_eq (recE_bytes hbk hbv c m n l) (recE_bytes hbk' hbv' c' m' n' l')) (Ev.bind0 (Same_eq' hbk hbv hbk' hbv' c m n l c' m' n' l') ?_))
        have e : decide (recE k v c m n l = recE k' v' c' m' n' l') = sameR k v c m n l k' v' c' m' n' l' := by
          refine decide_eq_decide.2 ⟨fun h => ?_, fun h => ?_⟩
          · have h1 := rec_dec k v c m n l hbk hbv hR
            rw [h] at h1
            have h2 := ev_eq h1 (rec_dec k' v' c' m' n' l' hbk' hbv' hR')
            simp only [Prod.mk.injEq, and_true] at h2
            exact h2
          · obtain ⟨rfl, rfl, rfl, rfl, rfl, rfl⟩ := h
            rfl
        rw [e, beq_self_eq_true]
        exact Ev.now _
      · rw [if_neg hR']
        exact Ev.iteF (by decide) (Ev.now _)
    · rw [if_neg hR]
      refine Ev.iteF (by decide) (Ev.bind0 (Right_eq k v c m n l) ?_)
      rw [decide_eq_false hR]
      exact Ev.now _
  refine Ev.rounds ?_
  unfold terrierlaw13_RecordBack.f
  refine Ev.bind lives_ev (Ev.iteT rfl (Ev.bind0 (few_eq k v c m n l) ?_))
  by_cases hf : k.length ≤ 200 ∧ v.length ≤ 2000
  · refine Ev.iteT (decide_eq_true hf) (Ev.bind0 (few_eq k' v' c' m' n' l') ?_)
    by_cases hf' : k'.length ≤ 200 ∧ v'.length ≤ 2000
    · rw [decide_eq_true hf']
      refine Ev.step (fun q => by rw [terrierlaw13_RecordBack.j0]) (Ev.iteF (by decide) ?_)
      refine Ev.bind (Encode_ev k v c m n l) (Ev.bind (Tomb_ev k) ?_)
      by_cases hN : Named k
      · simp only [if_pos hN]
        refine Ev.iteT (by first | trivial | rfl) (Ev.bind (tomb_dec k hbk hN) ?_)
        refine Ev.iteT rfl (Ev.iteT rfl (Ev.bind0 (Same_self _) (Ev.iteT rfl (Ev.iteT rfl ?_))))
        by_cases hR : RightP k v c m n l
        · have hne : tombE k ≠ recE k v c m n l := by
            intro h
            have := congrArg (fun z => rd z 0) h
            simp [tombE, recE, rd] at this
          simp only [if_pos hR] at hend ⊢
          exact Ev.bind0 (Same_eq (tombE_bytes hbk) (recE_bytes hbk hbv c m n l)) (Ev.iteF (by simpa using hne) hend)
        · have hne : tombE k ≠ [] := by simp [tombE]
          simp only [if_neg hR] at hend ⊢
          exact Ev.bind0 (Same_eq (tombE_bytes hbk) bytes_nil) (Ev.iteF (by simpa using hne) hend)
      · rw [if_neg hN]
        exact Ev.iteF (by decide) hend
    · exact hthen _ (by simp [hf'])
  · exact Ev.iteF (by simpa using hf) (hthen _ rfl)
end Go.Proofs.Ytapmgeofbjgalaa.Pure
