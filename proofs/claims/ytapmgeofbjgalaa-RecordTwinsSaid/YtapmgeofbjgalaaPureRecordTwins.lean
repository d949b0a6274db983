/- A twin is the same, in memory of its own, and whether two are the same is as the document says: the plain statement that is left of the law RecordTwins, for any two records. -/
import Derived.Test.YtapmgeofbjgalaaOct
import Derived.Test.YtapmgeofbjgalaaRec
import Derived.Test.YtapmgeofbjgalaaPSx25
namespace Go.Proofs.Ytapmgeofbjgalaa.Pure
open Go.RowKit Go.Proofs.YtapmgeofbjgalaaW.PrintWords Go.Proofs.YtapmgeofbjgalaaW.PrintLast Go.Proofs.YtapmgeofbjgalaaW.PrintMore Go.Proofs.Ytapmgeofbjgalaa.PS Go.Proofs.Ytapmgeofbjgalaa.Base Go.Proofs.Ytapmgeofbjgalaa.Oct Go.Proofs.Ytapmgeofbjgalaa.Rec
def flip (x : Int) : Int := Go.bits .xor .u8 x 255
theorem flip_eq : ∀ n : Nat, n < 256 → flip (n : Int) = 255 - (n : Int) := by decide +kernel
theorem flip_byte {x : Int} (h : 0 ≤ x ∧ x < 256) : flip x = 255 - x := by
  have := flip_eq x.toNat (by omega)
  rwa [Int.toNat_of_nonneg h.1] at this
theorem flip_set (l : List Int) (i : Nat) (h : i < l.length) : ((l.take i).map flip ++ l.drop i).set i (flip (rd ((l.take i).map flip ++ l.drop i) i)) = (l.take (i + 1)).map flip ++ l.drop (i + 1) := by
  have hl : ((l.take i).map flip).length = i := by simp; omega
  have hr : rd ((l.take i).map flip ++ l.drop i) i = rd l i := by
    simp only [rd, Int.toNat_natCast]
    rw [List.getD_eq_getElem?_getD, List.getD_eq_getElem?_getD, List.getElem?_append_right (by omega), hl, Nat.sub_self, List.getElem?_drop, Nat.add_zero]
  rw [hr, List.set_append_right _ _ (by omega), hl, Nat.sub_self]
  rw [rd_drop h, List.set_cons_zero, List.take_succ_eq_append_getElem h, List.map_append, List.append_assoc]
  congr 1
  simp [rd, h]
theorem flip_ne {l : List Int} (hb : Bytes l) (h : l ≠ []) : l ≠ l.map flip := by
  intro e
  cases l with
  | nil => exact h rfl
  | cons x l =>
    have hx := (bytes_cons.1 hb).1
    have := flip_byte hx
    simp at e
    omega
theorem flip_bytes {l : List Int} (hb : Bytes l) : Bytes (l.map flip) := fun y hy => by
  obtain ⟨x, hx, rfl⟩ := List.mem_map.1 hy
  have := hb x hx
  rw [flip_byte this]
  omega
section
variable (k v : List Int) (c m n l : Int) (hbk : Bytes k) (hbv : Bytes v) (hk : k.length ≤ 200) (hv : v.length ≤ 2000)
include hbk hbv hk hv
theorem values_loop : ∀ (d i : Nat), i + d = v.length → Ev (fun q => terrierlaw13_RecordTwins.l1 q (v.length : Int) i k v c m n l (k.map flip) ((v.take i).map flip ++ v.drop i) c m n l) true
  | 0, i, hi => by
    refine Ev.step (fun q => by rw [terrierlaw13_RecordTwins.l1]) (Ev.iteF (by omega) ?_)
    rw [List.take_of_length_le (by omega), List.drop_eq_nil_of_le (by omega), List.append_nil]
    refine Ev.bind0 (Twin_eq' (by omega) (by omega) c m n l) (Ev.bind0 (refSame_eq hbk hbv hbk hbv c m n l c m n l) ?_)
    rw [sameR_self]
    refine Ev.iteT rfl ?_
    by_cases h0 : wrap64 ((k.length : Int) + (v.length : Int)) = 0
    · exact Ev.iteT h0 (Ev.now _)
    · refine Ev.iteF h0 (Ev.bind0 (refSame_eq hbk hbv (flip_bytes hbk) (flip_bytes hbv) c m n l c m n l) ?_)
      have e : sameR k v c m n l (k.map flip) (v.map flip) c m n l = false := by
        refine decide_eq_false (fun hh => ?_)
        rw [wrap64_id (by omega) (by omega)] at h0
        by_cases hk0 : k = []
        · have hv0 : v ≠ [] := by intro h; subst hk0; subst h; simp at h0
          exact flip_ne hbv hv0 hh.2.1
        · exact flip_ne hbk hk0 hh.1
      rw [e]
      exact Ev.now _
  | d + 1, i, hi => by
    have hl : ((v.take i).map flip ++ v.drop i).length = v.length := by simp; omega
    refine Ev.step (fun q => by rw [terrierlaw13_RecordTwins.l1]) (Ev.iteT (by omega) (Ev.iteT (by omega) (Ev.iteT (by rw [hl]; omega) ?_)))
    rw [wrapInc (by omega), Int.toNat_natCast]
    have := flip_set v i (by omega)
    unfold flip at this ⊢
    rw [this]
    exact values_loop d (i + 1) (by omega)
theorem keys_loop : ∀ (d i : Nat), i + d = k.length → Ev (fun q => terrierlaw13_RecordTwins.l0 q (k.length : Int) i k v c m n l ((k.take i).map flip ++ k.drop i) v c m n l) true
  | 0, i, hi => by
    refine Ev.step (fun q => by rw [terrierlaw13_RecordTwins.l0]) (Ev.iteF (by omega) ?_)
    rw [List.take_of_length_le (by omega), List.drop_eq_nil_of_le (by omega), List.append_nil]
    have := values_loop k v c m n l hbk hbv hk hv v.length 0 (by omega)
    simpa using this
  | d + 1, i, hi => by
    have hl : ((k.take i).map flip ++ k.drop i).length = k.length := by simp; omega
    refine Ev.step (fun q => by rw [terrierlaw13_RecordTwins.l0]) (Ev.iteT (by omega) (Ev.iteT (by omega) (Ev.iteT (by rw [hl]; omega) ?_)))
    rw [wrapInc (by omega), Int.toNat_natCast]
    have := flip_set k i (by omega)
    unfold flip at this ⊢
    rw [this]
    exact keys_loop d (i + 1) (by omega)
end
theorem RecordTwins : terrierlaw13_RecordTwins.Pure := by
  intro k v c m n l k' v' c' m' n' l' hk hk'
  obtain ⟨⟨hk1, hk2, _⟩, ⟨hv1, hv2, _⟩, _⟩ := hk
  obtain ⟨⟨hk1', hk2', _⟩, ⟨hv1', hv2', _⟩, _⟩ := hk'
  have hbk := bytes_of_wf hk1
  have hbv := bytes_of_wf hv1
  have hbk' := bytes_of_wf hk1'
  have hbv' := bytes_of_wf hv1'
  have hthen : ∀ b : Bool, b = true → Ev (fun q => terrierlaw13_RecordTwins.j0 q b k v c m n l k' v' c' m' n' l') true := fun b hb => by
    subst hb
    exact Ev.step (fun q => by rw [terrierlaw13_RecordTwins.j0]) (Ev.iteT rfl (Ev.bind lives_ev (Ev.now _)))
  refine Ev.rounds ?_
  unfold terrierlaw13_RecordTwins.f
  refine Ev.bind lives_ev (Ev.iteT rfl (Ev.bind0 (few_eq k v c m n l) ?_))
  by_cases hf : k.length ≤ 200 ∧ v.length ≤ 2000
  · refine Ev.iteT (decide_eq_true hf) (Ev.bind0 (few_eq k' v' c' m' n' l') ?_)
    by_cases hf' : k'.length ≤ 200 ∧ v'.length ≤ 2000
    · rw [decide_eq_true hf']
      refine Ev.step (fun q => by rw [terrierlaw13_RecordTwins.j0]) (Ev.iteF (by decide) ?_)
      refine Ev.bind0 (Twin_eq' (by omega) (by omega) c m n l) (Ev.bind0 (refSame_eq hbk hbv hbk hbv c m n l c m n l) ?_)
      rw [sameR_self]
      refine Ev.iteT rfl (Ev.bind0 (Same_eq' hbk hbv hbk' hbv' c m n l c' m' n' l') (Ev.bind0 (refSame_eq hbk hbv hbk' hbv' c m n l c' m' n' l') ?_))
      rw [bne_self_eq_false]
      refine Ev.step (fun q => by rw [terrierlaw13_RecordTwins.j1]) (Ev.iteF (by decide) ?_)
      have := keys_loop k v c m n l hbk hbv hf.1 hf.2 k.length 0 (by omega)
      simpa using this
    · exact hthen _ (by simp [hf'])
  · exact Ev.iteF (by simpa using hf) (hthen _ rfl)
end Go.Proofs.Ytapmgeofbjgalaa.Pure
