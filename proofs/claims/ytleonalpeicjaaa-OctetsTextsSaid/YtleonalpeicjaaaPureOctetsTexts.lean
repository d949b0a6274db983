/- Texts that are put with their lengths ahead are read, one behind the other, to the very end: the plain statement that is left of the law OctetsTexts, for any row of texts. -/
import Derived.Test.YtleonalpeicjaaaOctOctetsTexts
import Derived.Test.YtleonalpeicjaaaRdrOctetsTexts
import Derived.Test.YtleonalpeicjaaaPSx30
import Derived.Test.YtleonalpeicjaaaPSx38
namespace Go.Proofs.Ytleonalpeicjaaa.Pure
open Go.RowKit Go.Proofs.YtleonalpeicjaaaW.PrintWords Go.Proofs.YtleonalpeicjaaaW.PrintLast Go.Proofs.YtleonalpeicjaaaW.PrintMore Go.Proofs.Ytleonalpeicjaaa.PS Go.Proofs.Ytleonalpeicjaaa.Base Go.Proofs.Ytleonalpeicjaaa.Oct Go.Proofs.Ytleonalpeicjaaa.Rdr
/-- The texts with their lengths ahead, one behind the other. -/
def cat : List (List Int) → List Int
  | [] => []
  | t :: l => putB (t.length : Int) 2 ++ t ++ cat l
theorem cat_snoc (l : List (List Int)) (t : List Int) : cat (l ++ [t]) = cat l ++ (putB (t.length : Int) 2 ++ t) := by
  induction l with
  | nil => simp [cat]
  | cons x l ih => simp [cat, ih]
theorem cat_append (l m : List (List Int)) : cat (l ++ m) = cat l ++ cat m := by
  induction l with
  | nil => simp [cat]
  | cons x l ih => simp [cat, ih]
theorem cat_bytes {l : List (List Int)} (h : ∀ t ∈ l, Bytes t) : Bytes (cat l) := by
  induction l with
  | nil => exact bytes_nil
  | cons x l ih =>
    rw [cat, bytes_append, bytes_append]
    exact ⟨⟨putB_bytes _ _, h x (by simp)⟩, ih (fun t ht => h t (List.mem_cons_of_mem _ ht))⟩
theorem cat_length {l : List (List Int)} (h : ∀ t ∈ l, t.length ≤ 3000) : (cat l).length ≤ 3002 * l.length := by
  induction l with
  | nil => simp [cat]
  | cons x l ih =>
    have := ih (fun t ht => h t (List.mem_cons_of_mem _ ht))
    have := h x (by simp)
    simp only [cat, List.length_append, putB_length, List.length_cons]
    omega
theorem rd_at {l : List (List Int)} {i : Nat} (h : i < l.length) : rd_L3 l (i : Int) = l[i] := by
  simp [rd_L3, List.getD_eq_getElem?_getD, List.getElem?_eq_getElem h]
section
variable (l : List (List Int)) (hb : ∀ t ∈ l, Bytes t) (hn : l.length ≤ 30)
include hb hn
theorem read_loop (hs : ∀ t ∈ l, t.length ≤ 3000) : ∀ (d i : Nat) (a : Int), i + d = l.length → a = (cat (l.take i)).length →
    Ev (fun k => terrierlaw01_OctetsTexts.l1 k (cat l) l (l.length : Int) i (cat l) a 0) true
  | 0, i, a, hi, ha => by
    have hl := cat_length hs
    refine Ev.step (fun k => by rw [terrierlaw01_OctetsTexts.l1]) (Ev.iteF (by omega) ?_)
    have e : a = ((cat l).length : Int) := by rw [ha, List.take_of_length_le (by omega)]
    refine Ev.bind0 (End_at _ _ e) (Ev.iteT rfl ?_)
    refine Ev.bind0 (show octets_Reader_At.f (cat l) a 0 = some (a, a, 0) from rfl) ?_
    dsimp only
    rw [e, beq_self_eq_true]
    exact Ev.now _
  | d + 1, i, a, hi, ha => by
    have hl := cat_length hs
    have hlt : i < l.length := by omega
    refine Ev.step (fun k => by rw [terrierlaw01_OctetsTexts.l1]) (Ev.iteT (by omega) (Ev.iteT (by omega) (Ev.iteT (by omega) ?_)))
    have hcat : cat l = cat (l.take i) ++ putB (l[i].length : Int) 2 ++ l[i] ++ cat (l.drop (i + 1)) := by
      conv => lhs; rw [← List.take_append_drop i l, cat_append, List.drop_eq_getElem_cons hlt, cat]
      simp
    have h3 := hs l[i] (List.getElem_mem hlt)
    refine Ev.bind (Text_at (cat l) (cat (l.take i)) l[i] (cat (l.drop (i + 1))) hcat (cat_bytes hb) (by omega) (by omega) 3000 (by omega) _ ha) ?_
    dsimp only
    rw [rd_at hlt]
    refine Ev.bind0 (Same_self _) (Ev.iteT rfl ?_)
    rw [wrapInc (by omega)]
    refine read_loop hs d (i + 1) _ (by omega) ?_
    rw [List.take_succ_eq_append_getElem hlt, cat_snoc, ha]
    simp [putB_length]
    omega
theorem put_loop (hle : l.length * 24 ≤ 140737488351232) : ∀ (d i : Nat), i + d = l.length → (∀ t ∈ l.take i, t.length ≤ 3000) →
    Ev (fun k => terrierlaw01_OctetsTexts.l0 k l (cat (l.take i)) l (l.length : Int) i) true
  | 0, i, hi, hs => by
    rw [List.take_of_length_le (by omega)] at hs ⊢
    have hl := cat_length hs
    refine Ev.step (fun k => by rw [terrierlaw01_OctetsTexts.l0]) (Ev.iteF (by omega) ?_)
    refine Ev.bind0 (New_eq _ (by omega)) ?_
    exact read_loop l hb hn hs l.length 0 0 (by omega) (by simp [cat])
  | d + 1, i, hi, hs => by
    have hlt : i < l.length := by omega
    have hl := cat_length hs
    have hl2 : (l.take i).length ≤ 30 := by simp; omega
    refine Ev.step (fun k => by rw [terrierlaw01_OctetsTexts.l0]) (Ev.iteT (by omega) (Ev.iteT (by omega) (Ev.iteT (by omega) ?_)))
    rw [rd_at hlt]
    by_cases c : (l[i].length : Int) > 3000
    · exact Ev.iteT c (Ev.now _)
    refine Ev.iteF c ?_
    have p2 : (256 : Int) ^ 2 = 65536 := by decide
    rw [wrap_u64_id (by omega) (by omega)]
    refine Ev.bind (Put_ev (l[i].length : Int) 2 (by omega) (by omega) (by omega) (by omega)) ?_
    have e : putE (l[i].length : Int) 2 = (putB (l[i].length : Int) 2, 0) := by
      unfold putE
      rw [if_neg (by omega), if_neg]
      · rfl
      · have : (l[i].length : Int) / 256 ^ (Int.toNat 2) = 0 := by
          rw [show (256 : Int) ^ (Int.toNat 2) = 65536 from by decide]
          omega
        exact fun h => h this
    rw [e]
    dsimp only
    refine Ev.iteT (by rw [putB_length]; omega) (Ev.bind0 rfl (Ev.iteT (by rw [List.length_append, putB_length]; omega) ?_))
    rw [wrapInc (by omega), List.append_assoc, ← cat_snoc, ← List.take_succ_eq_append_getElem hlt]
    refine put_loop hle d (i + 1) (by omega) ?_
    intro t ht
    rw [List.take_succ_eq_append_getElem hlt] at ht
    rcases List.mem_append.1 ht with h | h
    · exact hs t h
    · simp at h
      subst h
      omega
end
theorem OctetsTexts : terrierlaw01_OctetsTexts.Pure := by
  intro l hk
  have hb : ∀ t ∈ l, Bytes t := fun t ht => bytes_of_wf (hk.1 t ht).1
  refine Ev.rounds ?_
  unfold terrierlaw01_OctetsTexts.f
  by_cases c : (l.length : Int) > 30
  · exact Ev.iteT c (Ev.now _)
  · refine Ev.iteF c ?_
    exact put_loop l hb (by omega) hk.2.1 l.length 0 (by omega) (by simp)
end Go.Proofs.Ytleonalpeicjaaa.Pure
