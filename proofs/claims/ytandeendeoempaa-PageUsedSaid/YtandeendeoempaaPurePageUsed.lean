/- A page that uses no more than its room, and is right in all else, is right; with one byte more in its room than there is none is: the plain statement that is left of the law PageUsed, for every row of bytes and every number. -/
import Derived.Test.YtandeendeoempaaPagEPageUsed
import Derived.Test.YtandeendeoempaaPMx10
import Derived.Test.YtandeendeoempaaPMx8
import Derived.Test.YtandeendeoempaaPMx9
set_option linter.unusedSimpArgs false
namespace Go.Proofs.Ytandeendeoempaa.Pure
open Go.RowKit Go.Proofs.YtandeendeoempaaW.PrintWords Go.Proofs.YtandeendeoempaaW.PrintLast Go.Proofs.YtandeendeoempaaW.PrintMore Go.Proofs.Ytandeendeoempaa.PM Go.Proofs.Ytandeendeoempaa.Base Go.Proofs.Ytandeendeoempaa.Oct Go.Proofs.Ytandeendeoempaa.Crc Go.Proofs.Ytandeendeoempaa.Sum Go.Proofs.Ytandeendeoempaa.Pag Go.Proofs.Ytandeendeoempaa.PagE

/-- The items that the law makes. -/
def mkI (i : Nat) (x : Int) : S44 := ⟨[(i : Int) % 256], List.replicate (x % 60).toNat 0, ((List.replicate (x % 60).toNat (0 : Int)).length : Int), 0⟩
def bld : Nat → List Int → List S44
  | _, [] => []
  | i, x :: l => mkI i x :: bld (i + 1) l
theorem bld_len : ∀ (i : Nat) (l : List Int), (bld i l).length = l.length
  | _, [] => rfl
  | i, x :: l => by simp [bld, bld_len (i + 1) l]
theorem mk_len (i : Nat) (x : Int) : itemLen (mkI i x) = 4 + (mkI i x).f1.length := by
  unfold itemLen mkI
  rw [if_neg (by simp; omega)]
  simp
theorem mk_ok (i : Nat) (x : Int) : itemB (mkI i x) = true := by
  unfold itemB mkI
  have h : ((List.replicate (x % 60).toNat (0 : Int)).length : Int) ≤ 64 := by simp; omega
  rw [if_pos h]
  simp
  omega
theorem bld_chk : ∀ (l : List Int) (i : Nat), i + l.length ≤ 100 → chk itemB (fun y x => keyLt y.f0 x.f0) none (bld i l) = true ∧ ∀ y, chk itemB (fun y x => keyLt y.f0 x.f0) (some (mkI i y)) (bld (i + 1) l) = true ∨ 100 < i + 1 + l.length
  | [], i, h => ⟨rfl, fun _ => .inl rfl⟩
  | x :: l, i, h => by
    simp only [List.length_cons] at h
    obtain ⟨_, h2⟩ := bld_chk l i (by omega)
    constructor
    · have := h2 x
      simp only [bld, chk, mk_ok, Bool.true_and]
      rcases this with h | h
      · exact h
      · omega
    · intro y
      rcases Nat.lt_or_ge 100 (i + 1 + (x :: l).length) with g | g
      · exact .inr g
      · left
        simp only [List.length_cons] at g
        have h3 := (bld_chk l (i + 1) (by omega)).2 x
        simp only [bld, chk, mk_ok, Bool.true_and]
        have c : keyLt (mkI i y).f0 (mkI (i + 1) x).f0 = true := by
          refine decide_eq_true ?_
          show cmpB [(i : Int) % 256] [((i + 1 : Nat) : Int) % 256] < 0
          rw [cmpB_cons, if_pos (by omega)]
          decide
        rw [c, Bool.true_and]
        rcases h3 with h | h
        · exact h
        · omega
def pgI (l : List Int) : Pg := ⟨1, 0, 0, bld 0 l, [], [], []⟩
def pgD (m : Nat) : Pg := ⟨3, 0, 0, [], [], List.replicate m 0, []⟩
theorem sum_mk : ∀ (l : List Int) (i : Nat), ((bld i l).map itemLen).sum = ((bld i l).map (fun x => 4 + x.f1.length)).sum
  | [], _ => rfl
  | x :: l, i => by simp only [bld, List.map_cons, List.sum_cons, mk_len, sum_mk l (i + 1)]
theorem used_pgI (l : List Int) : usedN (pgI l) = ((bld 0 l).map (fun x => 4 + x.f1.length)).sum := by
  unfold usedN pgI
  rw [← sum_mk]
  simp
theorem used_le : ∀ (l : List Int) (i : Nat), ((bld i l).map (fun x => 4 + x.f1.length)).sum ≤ 64 * l.length
  | [], _ => by simp [bld]
  | x :: l, i => by
    have := used_le l (i + 1)
    have : (mkI i x).f1.length ≤ 59 := by simp [mkI]; omega
    simp only [bld, List.map_cons, List.sum_cons, List.length_cons]
    omega
theorem right_pgI (l : List Int) (h0 : 0 < l.length) (h : l.length ≤ 100) : rightB (pgI l) = decide (usedN (pgI l) ≤ 237) := by
  have e : thingsE (pgI l) = ((l.length : Int), true) := by
    unfold thingsE pgI page_things.g
    simp [bld_len]
  have hh : headB (pgI l) = true := by
    unfold headB
    rw [e]
    simp [pgI]
    omega
  unfold rightB
  rw [hh]
  have := (bld_chk l 0 (by omega)).1
  simp [pgI, itemsB, this, kidsB, idsB, chk]
theorem right_pgD (m : Nat) : rightB (pgD m) = (decide (1 ≤ m) && decide (m ≤ 237)) := by
  have e : thingsE (pgD m) = ((m : Int), true) := by
    unfold thingsE pgD page_things.g
    simp
  have hh : headB (pgD m) = (decide (1 ≤ m) && decide (m ≤ 237)) := by
    unfold headB
    rw [e]
    rw [Bool.eq_iff_iff]
    simp [pgD]
    omega
  unfold rightB
  rw [hh, Bool.eq_iff_iff]
  simp [pgD, itemsB, kidsB, idsB, chk, usedN]
theorem j3_ev (a1 : Int) (_h : -9223372036854775808 ≤ a1 ∧ a1 ≤ 9223372036854775807) : Ev (fun k => terrierlaw04_PageUsed.j3 k a1 false) true := by
  refine Ev.step (fun k => by rw [terrierlaw04_PageUsed.j3]) (Ev.iteF (by decide) ?_)
  have u0 : 0 ≤ IntKind.u64.wrap a1 := by rw [wrap_u64]; omega
  have m0 := Int.emod_nonneg (IntKind.u64.wrap a1) (show (500 : Int) ≠ 0 by omega)
  have m1 := Int.emod_lt_of_pos (IntKind.u64.wrap a1) (show (0 : Int) < 500 by omega)
  rw [Int.tmod_eq_emod_of_nonneg u0]
  generalize IntKind.u64.wrap a1 % 500 = m at *
  rw [wrap64_id (n := m) (by omega) (by omega)]
  refine Ev.iteT m0 (Ev.iteT (by omega) (Ev.bind0 rfl ?_))
  refine Ev.bind (Open_ev [] bytes_nil (by simp)) ?_
  refine Ev.iteT (by decide) ?_
  have hr := Right_ev (pgD m.toNat) (by simp [pgD, usedN]; omega) (by simp [pgD]) (by simp [pgD])
  rw [right_pgD] at hr
  refine Ev.bind hr ?_
  rw [List.length_replicate]
  by_cases c : 1 ≤ m.toNat
  · refine Ev.iteT (by omega) (Ev.eq (Ev.now _) ?_)
    rw [decide_eq_true c, Bool.true_and, Bool.eq_iff_iff.2 (show decide ((m.toNat : Int) ≤ 237) = true ↔ decide (m.toNat ≤ 237) = true by simp only [decide_eq_true_eq]; omega)]
    simp
  · refine Ev.iteF (by omega) (Ev.eq (Ev.now _) ?_)
    rw [decide_eq_false c]
    rfl
theorem l1_ev (l : List Int) (a1 : Int) (ha : -9223372036854775808 ≤ a1 ∧ a1 ≤ 9223372036854775807) (h : l.length ≤ 100) : ∀ (m : List S44) (i a : Nat), (bld 0 l).drop i = m → i ≤ (bld 0 l).length → a + (m.map (fun x => 4 + x.f1.length)).sum = usedN (pgI l) →
    Ev (fun k => terrierlaw04_PageUsed.l1 k l a1 a (bld 0 l) ((bld 0 l).length : Int) i 1 0 0 (bld 0 l)) true
  | [], i, a, hm, hi, hs => by
    have : (bld 0 l).length ≤ i := List.drop_eq_nil_iff.1 hm
    have ul := used_le l 0
    have up := used_pgI l
    simp at hs
    subst hs
    refine Ev.step (fun k => by rw [terrierlaw04_PageUsed.l1]) ?_
    refine Ev.iteF (by omega) ?_
    have kb : ∀ x ∈ (pgI l).items, Bytes x.f0 := by
      have key : ∀ (l : List Int) (i : Nat), ∀ x ∈ bld i l, Bytes x.f0 := by
        intro l
        induction l with
        | nil => intro i x hx; cases hx
        | cons y l ih =>
          intro i x hx
          rcases List.mem_cons.1 hx with rfl | hx
          · intro z hz
            simp [mkI] at hz
            omega
          · exact ih _ x hx
      exact key l 0
    refine Ev.bind (Used_ev (pgI l) (by omega)) (Ev.iteT rfl ?_)
    by_cases c : 0 < l.length
    · refine Ev.iteT (by omega) ?_
      have hr := Right_ev (pgI l) (by omega) kb (by simp [pgI])
      rw [right_pgI l c h] at hr
      refine Ev.bind hr ?_
      rw [show (decide (usedN (pgI l) ≤ 237) != decide ((usedN (pgI l) : Int) ≤ 237)) = false by rw [Bool.eq_iff_iff.2 (show decide ((usedN (pgI l) : Int) ≤ 237) = true ↔ decide (usedN (pgI l) ≤ 237) = true by simp; omega)]; simp]
      exact j3_ev a1 ha
    · exact Ev.iteF (by omega) (j3_ev a1 ha)
  | x :: m, i, a, hm, hi, hs => by
    obtain ⟨hh, hx, hm'⟩ := drop_cons hm
    have e1 : rd_T44 (bld 0 l) i = x := (rd_getD (bld 0 l) _ i hh).trans hx
    have bl := bld_len 0 l
    have ul := used_le l 0
    have up := used_pgI l
    simp only [List.map_cons, List.sum_cons] at hs
    refine Ev.step (fun k => by rw [terrierlaw04_PageUsed.l1]) (Ev.iteT (by omega) (Ev.iteT (by omega) (Ev.iteT (by omega) ?_)))
    rw [e1, wrapInc (by omega), wrap64_id (n := 4 + (x.f1.length : Int)) (by omega) (by omega), wrap64_id (n := (a : Int) + (4 + (x.f1.length : Int))) (by omega) (by omega)]
    rw [show (a : Int) + (4 + (x.f1.length : Int)) = ((a + (4 + x.f1.length) : Nat) : Int) by omega]
    exact l1_ev l a1 ha h m (i + 1) _ hm' hh (by omega)
theorem l0_ev (l : List Int) (hb : Bytes l) (a1 : Int) (ha : -9223372036854775808 ≤ a1 ∧ a1 ≤ 9223372036854775807) (h : l.length ≤ 100) : ∀ (m : List Int) (i : Nat) (acc : List S44), l.drop i = m → i ≤ l.length → acc.length = i → acc ++ bld i m = bld 0 l →
    Ev (fun k => terrierlaw04_PageUsed.l0 k l a1 l (l.length : Int) i 1 0 0 acc) true
  | [], i, acc, hm, hi, hl, e => by
    have : l.length ≤ i := List.drop_eq_nil_iff.1 hm
    simp only [bld, List.append_nil] at e
    subst e
    refine Ev.step (fun k => by rw [terrierlaw04_PageUsed.l0]) ?_
    refine Ev.iteF (by omega) ?_
    exact l1_ev l a1 ha h (bld 0 l) 0 0 rfl (by omega) (by rw [used_pgI, Nat.zero_add])
  | x :: m, i, acc, hm, hi, hl, e => by
    obtain ⟨hh, hx, hm'⟩ := drop_cons hm
    have e1 : rd l i = x := (rd_getD l _ i hh).trans hx
    have hxb := hb x (by rw [← hx]; exact List.getElem_mem _)
    refine Ev.step (fun k => by rw [terrierlaw04_PageUsed.l0]) (Ev.iteT (by omega) (Ev.iteT (by omega) (Ev.iteT (by omega) ?_)))
    rw [e1, wrapInc (by omega), wrap64_id (n := x) (by omega) (by omega), Int.tmod_eq_emod_of_nonneg (by omega)]
    refine Ev.iteT (by omega) (Ev.iteT (by omega) (Ev.bind0 rfl (Ev.iteT (by omega) ?_)))
    exact l0_ev l hb a1 ha h m (i + 1) _ hm' hh (by simp [hl]) (by rw [← e]; simp [bld, mkI])
theorem PageUsed : terrierlaw04_PageUsed.Pure := by
  intro l a1 _ _ hw ha
  have hb := bytes_of_wf hw
  have ha' := wf_i64.1 ha
  suffices h : Ev (fun k => terrierlaw04_PageUsed.f k l a1) true from h.rounds
  unfold terrierlaw04_PageUsed.f
  refine Ev.bind lives_ev (Ev.iteT rfl ?_)
  by_cases c : (l.length : Int) > 100
  · rw [decide_eq_true c]
    refine Ev.step (fun k => by rw [terrierlaw04_PageUsed.j0]) (Ev.iteT rfl (Ev.bind lives_ev (Ev.now _)))
  · rw [decide_eq_false c]
    refine Ev.step (fun k => by rw [terrierlaw04_PageUsed.j0]) ?_
    refine Ev.iteF (by decide) ?_
    exact l0_ev l hb a1 ha' (by omega) l 0 [] rfl (by omega) rfl rfl
end Go.Proofs.Ytandeendeoempaa.Pure
