/- The document's answer for a page's room, its bytes, and whether it is right: the same as package page's. -/
import Derived.Test.YtandeendeoempaaPagSPageCodes
import Derived.Test.YtandeendeoempaaPCx10
import Derived.Test.YtandeendeoempaaPCx11
import Derived.Test.YtandeendeoempaaPCx12
import Derived.Test.YtandeendeoempaaPCx13
import Derived.Test.YtandeendeoempaaPCx15
import Derived.Test.YtandeendeoempaaPCx16
set_option linter.unusedSimpArgs false
namespace Go.Proofs.Ytandeendeoempaa.PagR
open Go.RowKit Go.Proofs.YtandeendeoempaaW.PrintWords Go.Proofs.YtandeendeoempaaW.PrintLast Go.Proofs.YtandeendeoempaaW.PrintMore Go.Proofs.Ytandeendeoempaa.PC Go.Proofs.Ytandeendeoempaa.Base Go.Proofs.Ytandeendeoempaa.Oct Go.Proofs.Ytandeendeoempaa.Crc Go.Proofs.Ytandeendeoempaa.Sum Go.Proofs.Ytandeendeoempaa.Pag Go.Proofs.Ytandeendeoempaa.PagE Go.Proofs.Ytandeendeoempaa.PagS

theorem rid_eq (n : Int) : terrierref04_id.f n = some (idB n) := by
  unfold terrierref04_id.f idB
  by_cases h : n > 0
  · rw [if_pos h]; simp [show (1 : Int) ≤ n by omega]
  · rw [if_neg h]; simp [show ¬ (1 : Int) ≤ n by omega]
theorem rput_ev (n : Int) (d : Nat) (h0 : 0 ≤ n) (h1 : n < 256 ^ d) (h8 : d ≤ 8) : Ev (fun k => terrierref01_Put.f k n d) (putB n d) := by
  have p8 := pow256_le h8
  exact refPut_ev n d h0 (by omega) (by omega) (by omega)
theorem rputw_ev (n : Int) (d : Nat) (h0 : 0 ≤ n) (h1 : n < 256 ^ d) (h8 : d ≤ 8) : Ev (fun k => terrierref01_Put.f k (IntKind.u64.wrap n) d) (putB n d) := by
  have p8 := pow256_le h8
  rw [wrap_u64_id h0 (by omega)]
  exact rput_ev n d h0 h1 h8
abbrev Ro := List Int × Int × Bool
abbrev noR : Ro := ([], 0, false)
/-- What is asked behind the rows. -/
def finB (p : Pg) (b : List Int) (n : Nat) : Bool := (decide (n ≠ 0) || decide (p.k = 4)) && (decide (p.items.length + p.kids.length + p.data.length + p.ids.length = n) && (decide (b.length ≤ 237) && (decide (0 ≤ p.n) && (decide (p.n < 1024) && (decide (3 ≤ p.k) || decide (p.n = 0))))))
def finR (p : Pg) (b : List Int) (n : Nat) : Ro := if finB p b n = true then (b, (n : Int), true) else noR
theorem j7_ev (p : Pg) (is : List S61) (ks : List S62) (b : List Int) (n : Nat) (hi : is.length = p.items.length) (hk : ks.length = p.kids.length) (h1 : p.items.length ≤ 1000) (h2 : p.kids.length ≤ 1000) (h3 : p.data.length ≤ 1000) (h4 : p.ids.length ≤ 1000) (hn : n ≤ 1000) :
    Ev (fun k => terrierref04_room.j7 k b (n : Int) p.k p.t p.n is ks p.data p.ids) (finR p b n) := by
  have w : wrap64 ((wrap64 ((wrap64 ((wrap64 ((is.length : Int) + (ks.length : Int))) + (p.data.length : Int))) + (p.ids.length : Int))) - (n : Int)) = (p.items.length : Int) + p.kids.length + p.data.length + p.ids.length - n := by
    rw [hi, hk, wrap64_id (n := (p.items.length : Int) + (p.kids.length : Int)) (by omega) (by omega), wrap64_id (n := (p.items.length : Int) + (p.kids.length : Int) + (p.data.length : Int)) (by omega) (by omega), wrap64_id (n := (p.items.length : Int) + (p.kids.length : Int) + (p.data.length : Int) + (p.ids.length : Int)) (by omega) (by omega), wrap64_id (by omega) (by omega)]
  have eT : Ev (fun k => terrierref04_room.j8 k b (n : Int) true) noR := Ev.step (fun k => by rw [terrierref04_room.j8]) (Ev.iteT rfl (Ev.now _))
  have eF : Ev (fun k => terrierref04_room.j8 k b (n : Int) false) (b, (n : Int), true) := Ev.step (fun k => by rw [terrierref04_room.j8]) (Ev.iteF (by decide) (Ev.now _))
  refine Ev.step (fun k => by rw [terrierref04_room.j7]) ?_
  rw [w]
  unfold finR finB
  have tail : n ≠ 0 ∨ p.k = 4 → Ev (fun k => if (p.items.length : Int) + p.kids.length + p.data.length + p.ids.length - n = 0 then (if (b.length : Int) > 237 then (terrierref04_room.j8 k b (n : Int) true) else (if p.n < 0 then (terrierref04_room.j8 k b (n : Int) true) else (if p.n ≥ 1024 then (terrierref04_room.j8 k b (n : Int) true) else (if p.k < 3 then (terrierref04_room.j8 k b (n : Int) (p.n != 0)) else (terrierref04_room.j8 k b (n : Int) false))))) else (terrierref04_room.j8 k b (n : Int) true))
      (if ((decide (n ≠ 0) || decide (p.k = 4)) && (decide (p.items.length + p.kids.length + p.data.length + p.ids.length = n) && (decide (b.length ≤ 237) && (decide (0 ≤ p.n) && (decide (p.n < 1024) && (decide (3 ≤ p.k) || decide (p.n = 0))))))) = true then (b, (n : Int), true) else noR) := by
    intro h0
    have h0' : (decide (n ≠ 0) || decide (p.k = 4)) = true := by simpa using h0
    rw [h0', Bool.true_and]
    by_cases c1 : p.items.length + p.kids.length + p.data.length + p.ids.length = n
    case neg => exact Ev.eq (Ev.iteF (by omega) eT) (by simp [c1])
    refine Ev.iteT (by omega) ?_
    by_cases c2 : b.length ≤ 237
    case neg => exact Ev.eq (Ev.iteT (by omega) eT) (by simp [c2])
    refine Ev.iteF (by omega) ?_
    by_cases c3 : 0 ≤ p.n
    case neg => exact Ev.eq (Ev.iteT (by omega) eT) (by simp [c3])
    refine Ev.iteF (by omega) ?_
    by_cases c4 : p.n < 1024
    case neg => exact Ev.eq (Ev.iteT (by omega) eT) (by simp [c4])
    refine Ev.iteF (by omega) ?_
    by_cases c5 : p.k < 3
    · refine Ev.iteT c5 ?_
      by_cases c6 : p.n = 0
      · rw [show (p.n != 0) = false by simp [c6]]
        exact Ev.eq eF (by simp [c1, c2, c6])
      · rw [show (p.n != 0) = true by simp [c6]]
        exact Ev.eq eT (by simp [c6, show ¬ 3 ≤ p.k by omega])
    · exact Ev.eq (Ev.iteF c5 eF) (by simp [c1, c2, c3, c4, show 3 ≤ p.k by omega])
  by_cases c0 : n = 0
  · refine Ev.iteT (by omega) ?_
    by_cases ck : p.k = 4
    · exact Ev.iteT ck (tail (.inr ck))
    · exact Ev.eq (Ev.iteF ck eT) (by simp [c0, ck])
  · exact Ev.iteF (by omega) (tail (.inl c0))
/-- The document's room. -/
def roomE (p : Pg) : Ro :=
  if p.k = 1 then (if itemsB p.items = true then finR p (flat itemY p.items) p.items.length else noR)
  else if p.k = 2 then (if kidsB p.kids = true then finR p (flat kidY p.kids) p.kids.length else noR)
  else if p.k = 3 then finR p p.data p.data.length
  else if p.k = 4 then (if idsB p.ids = true then finR p (flat idY p.ids) p.ids.length else noR)
  else noR
theorem room_right (p : Pg) : roomE p = if rightB p = true then (flat itemY p.items ++ flat kidY p.kids ++ p.data ++ flat idY p.ids, (thingsE p).1, true) else noR := by
  have li := flat_len itemY itemLen itemY_len p.items
  have lk := flat_len kidY kidLen kidY_len p.kids
  have ld := ids_len p.ids
  have i3 := items_le p.items
  have k5 := kids_le p.kids
  have nilI : p.items.length = 0 → p.items = [] := List.eq_nil_of_length_eq_zero
  have nilK : p.kids.length = 0 → p.kids = [] := List.eq_nil_of_length_eq_zero
  have nilD : p.data.length = 0 → p.data = [] := List.eq_nil_of_length_eq_zero
  have nilS : p.ids.length = 0 → p.ids = [] := List.eq_nil_of_length_eq_zero
  have key : ∀ (b : List Int) (n : Nat) (g : Bool), (g = true ∧ finB p b n = true ↔ rightB p = true) → (rightB p = true → b = flat itemY p.items ++ flat kidY p.kids ++ p.data ++ flat idY p.ids ∧ (n : Int) = (thingsE p).1) →
      (if g = true then finR p b n else noR) = if rightB p = true then (flat itemY p.items ++ flat kidY p.kids ++ p.data ++ flat idY p.ids, (thingsE p).1, true) else noR := by
    intro b n g h1 h2
    by_cases r : rightB p = true
    · rw [if_pos r, if_pos (h1.2 r).1]
      unfold finR
      rw [if_pos (h1.2 r).2, (h2 r).1, (h2 r).2]
    · rw [if_neg r]
      by_cases hg : g = true
      · rw [if_pos hg]
        unfold finR
        rw [if_neg fun h => r (h1.1 ⟨hg, h⟩)]
      · rw [if_neg hg]
  have th : ∀ r : rightB p = true, (thingsE p).2 = true := fun r => (right_ok r).one
  unfold roomE
  by_cases c1 : p.k = 1
  · rw [if_pos c1]
    refine key _ _ _ ?_ fun r => ?_
    · unfold rightB headB finB
      by_cases z : p.kids.length = 0 ∧ p.data.length = 0 ∧ p.ids.length = 0
      · have zk := nilK z.1
        have zd := nilD z.2.1
        have zi := nilS z.2.2
        have e : thingsE p = ((p.items.length : Int), true) := by unfold thingsE page_things.g; rw [if_pos c1, if_pos z]
        rw [e]
        simp only [usedN, zk, zd, zi, c1, kidsB, idsB, chk, List.map_nil, List.sum_nil, List.length_nil, Bool.and_eq_true, Bool.or_eq_true, decide_eq_true_eq, true_and, and_true, li]
        constructor
        · rintro ⟨h1, h2, h3, h4, h5, h6, h7⟩
          exact ⟨⟨by omega, by omega, h5, h6, by omega⟩, h1, by omega⟩
        · rintro ⟨⟨h1, h2, h3, h4, h5⟩, h6, h7⟩
          exact ⟨h6, by omega, by omega, by omega, h3, h4, by omega⟩
      · have e : thingsE p = (0, false) := by unfold thingsE page_things.g; rw [if_pos c1, if_neg z]
        rw [e]
        simp only [Bool.and_eq_true, decide_eq_true_eq, Bool.false_eq_true, false_and, iff_false]
        intro h
        exact z (by omega)
    · rcases things_1 (th r) with ⟨_, z1, z2, z3, zn⟩ | ⟨k1, _⟩ | ⟨k1, _⟩ | ⟨k1, _⟩
      · rw [z1, z2, z3, zn]
        simp [flat_nil]
      all_goals omega
  rw [if_neg c1]
  by_cases c2 : p.k = 2
  · rw [if_pos c2]
    refine key _ _ _ ?_ fun r => ?_
    · unfold rightB headB finB
      by_cases z : p.items.length = 0 ∧ p.data.length = 0 ∧ p.ids.length = 0
      · have zk := nilI z.1
        have zd := nilD z.2.1
        have zi := nilS z.2.2
        have e : thingsE p = ((p.kids.length : Int), true) := by unfold thingsE page_things.g; rw [if_neg c1, if_pos c2, if_pos z]
        rw [e]
        simp only [usedN, zk, zd, zi, c2, itemsB, idsB, chk, List.map_nil, List.sum_nil, List.length_nil, Bool.and_eq_true, Bool.or_eq_true, decide_eq_true_eq, true_and, and_true, lk]
        constructor
        · rintro ⟨h1, h2, h3, h4, h5, h6, h7⟩
          exact ⟨⟨by omega, by omega, h5, h6, by omega⟩, h1, by omega⟩
        · rintro ⟨⟨h1, h2, h3, h4, h5⟩, h6, h7⟩
          exact ⟨h6, by omega, by omega, by omega, h3, h4, by omega⟩
      · have e : thingsE p = (0, false) := by unfold thingsE page_things.g; rw [if_neg c1, if_pos c2, if_neg z]
        rw [e]
        simp only [Bool.and_eq_true, decide_eq_true_eq, Bool.false_eq_true, false_and, iff_false]
        intro h
        exact z (by omega)
    · rcases things_1 (th r) with ⟨k1, _⟩ | ⟨_, z1, z2, z3, zn⟩ | ⟨k1, _⟩ | ⟨k1, _⟩
      · omega
      · rw [z1, z2, z3, zn]
        simp [flat_nil]
      all_goals omega
  rw [if_neg c2]
  by_cases c3 : p.k = 3
  · rw [if_pos c3]
    have kk := key p.data p.data.length true
    rw [if_pos rfl] at kk
    refine kk ?_ fun r => ?_
    · unfold rightB headB finB
      by_cases z : p.items.length = 0 ∧ p.kids.length = 0 ∧ p.ids.length = 0
      · have zk := nilI z.1
        have zd := nilK z.2.1
        have zi := nilS z.2.2
        have e : thingsE p = ((p.data.length : Int), true) := by unfold thingsE page_things.g; rw [if_neg c1, if_neg c2, if_pos c3, if_pos z]
        rw [e]
        simp only [usedN, zk, zd, zi, c3, itemsB, kidsB, idsB, chk, List.map_nil, List.sum_nil, List.length_nil, Bool.and_eq_true, Bool.or_eq_true, decide_eq_true_eq, true_and, and_true]
        omega
      · have e : thingsE p = (0, false) := by unfold thingsE page_things.g; rw [if_neg c1, if_neg c2, if_pos c3, if_neg z]
        rw [e]
        simp only [Bool.and_eq_true, decide_eq_true_eq, Bool.false_eq_true, false_and, iff_false]
        intro h
        exact z (by omega)
    · rcases things_1 (th r) with ⟨k1, _⟩ | ⟨k1, _⟩ | ⟨_, z1, z2, z3, zn⟩ | ⟨k1, _⟩
      · omega
      · omega
      · rw [z1, z2, z3, zn]
        simp [flat_nil]
      · omega
  rw [if_neg c3]
  by_cases c4 : p.k = 4
  · rw [if_pos c4]
    refine key _ _ _ ?_ fun r => ?_
    · unfold rightB headB finB
      by_cases z : p.items.length = 0 ∧ p.kids.length = 0 ∧ p.data.length = 0
      · have zk := nilI z.1
        have zd := nilK z.2.1
        have zi := nilD z.2.2
        have e : thingsE p = ((p.ids.length : Int), true) := by unfold thingsE page_things.g; rw [if_neg c1, if_neg c2, if_neg c3, if_pos c4, if_pos z]
        rw [e]
        simp only [usedN, zk, zd, zi, c4, itemsB, kidsB, chk, List.map_nil, List.sum_nil, List.length_nil, Bool.and_eq_true, Bool.or_eq_true, decide_eq_true_eq, true_and, and_true, ld]
        by_cases hg : idsB p.ids = true
        · simp only [hg, true_and]
          constructor
          · intro q
            exact ⟨⟨Or.inr trivial, by omega, by omega, by omega, by first | omega | exact Or.inr ⟨by decide, by decide⟩ | simp⟩, by omega⟩
          · intro q
            exact ⟨Or.inr trivial, by omega, by omega, by omega, by omega, by omega⟩
        · simp [hg]
      · have e : thingsE p = (0, false) := by unfold thingsE page_things.g; rw [if_neg c1, if_neg c2, if_neg c3, if_pos c4, if_neg z]
        rw [e]
        simp only [Bool.and_eq_true, decide_eq_true_eq, Bool.false_eq_true, false_and, iff_false]
        intro h
        exact z (by omega)
    · rcases things_1 (th r) with ⟨k1, _⟩ | ⟨k1, _⟩ | ⟨k1, _⟩ | ⟨_, z1, z2, z3, zn⟩
      · omega
      · omega
      · omega
      · rw [z1, z2, z3, zn]
        simp [flat_nil]
  rw [if_neg c4]
  have r : ¬ rightB p = true := fun r => by
    have := (right_ok r).k
    omega
  rw [if_neg r]
theorem cmp_lt (y x : List Int) : decide (cmpB y x = -1) = keyLt y x := by
  unfold keyLt
  rcases cmpB_three y x with h | h | h <;> rw [h] <;> decide
section
variable (p : Pg) (h1 : p.items.length ≤ 1000) (h2 : p.kids.length ≤ 1000) (h3 : p.data.length ≤ 1000) (h4 : p.ids.length ≤ 1000) (bp : ByP p)
include h1 h2 h3 h4 bp
theorem room_l2 (n : Nat) (hn : n ≤ 1000) : ∀ (m : List Int) (i : Nat) (b : List Int), p.ids.drop i = m → i ≤ p.ids.length → b.length ≤ 4 * i →
    Ev (fun k => terrierref04_room.l2 k b (n : Int) p.ids (p.ids.length : Int) i p.k p.t p.n (p.items.map cI) (p.kids.map cK) p.data p.ids) (if chk idB idLt (prevAt p.ids i) m = true then finR p (b ++ flat idY m) n else noR)
  | [], i, b, hm, hi, hbl => by
    have _ := bp
    have : p.ids.length ≤ i := List.drop_eq_nil_iff.1 hm
    refine Ev.step (fun k => by rw [terrierref04_room.l2]) ?_
    refine Ev.iteF (by omega) ?_
    exact Ev.eq (j7_ev p _ _ b n (by simp) (by simp) h1 h2 h3 h4 hn) (by simp [chk, flat_nil])
  | x :: m, i, b, hm, hi, hbl => by
    obtain ⟨h, hx, hm'⟩ := drop_cons hm
    have e : rd p.ids i = x := (rd_getD p.ids _ i h).trans hx
    have p4 : (256 : Int) ^ 4 = 4294967296 := by decide
    rw [chk_cons]
    refine Ev.step (fun k => by rw [terrierref04_room.l2]) (Ev.iteT (by omega) (Ev.iteT (by omega) (Ev.iteT (by omega) ?_)))
    have jT : Ev (fun k => terrierref04_room.j6 k b (n : Int) x p.ids (p.ids.length : Int) i true p.k p.t p.n (p.items.map cI) (p.kids.map cK) p.data p.ids) noR := Ev.step (fun k => by rw [terrierref04_room.j6]) (Ev.iteT rfl (Ev.now _))
    rw [e, rid_eq]
    refine Ev.bind0 rfl ?_
    by_cases c : idB x = true
    case neg => exact Ev.eq (Ev.iteF c jT) (by simp [c])
    have hid := id_ok c
    have jF : Ev (fun k => terrierref04_room.j6 k b (n : Int) x p.ids (p.ids.length : Int) i false p.k p.t p.n (p.items.map cI) (p.kids.map cK) p.data p.ids) (if chk idB idLt (some x) m = true then finR p (b ++ flat idY (x :: m)) n else noR) := by
      refine Ev.step (fun k => by rw [terrierref04_room.j6]) (Ev.iteF (by decide) ?_)
      refine Ev.bind (rputw_ev x 4 (by omega) (by rw [p4]; omega) (by omega)) (Ev.iteT (by rw [putB_length]; omega) ?_)
      rw [wrapInc (by omega)]
      have ih := room_l2 n hn m (i + 1) (b ++ putB x 4) hm' h (by simp only [List.length_append, putB_length]; omega)
      rw [prevAt_succ h, hx] at ih
      rw [flat_cons, ← List.append_assoc]
      exact ih
    refine Ev.iteT c ?_
    by_cases c0 : 0 < i
    · obtain ⟨q1, q2⟩ := prevAt_pos (by omega) h c0
      refine Ev.iteT (by omega) ?_
      rw [q2, q1]
      refine Ev.iteT (by omega) (Ev.iteT (by omega) ?_)
      have e2 : rd p.ids ((i - 1 : Nat) : Int) = p.ids[i - 1]'(by omega) := rd_getD p.ids _ (i - 1) (by omega)
      rw [e2]
      by_cases d : p.ids[i - 1]'(by omega) ≥ x
      · rw [decide_eq_true d]
        exact Ev.eq jT (by simp [idLt, show ¬ p.ids[i - 1]'(by omega) < x by omega])
      · rw [decide_eq_false d]
        exact Ev.eq jF (by simp [idLt, c, show p.ids[i - 1]'(by omega) < x by omega])
    · obtain rfl : i = 0 := by omega
      exact Ev.eq (Ev.iteF (by omega) jF) (by simp [c, prevAt_zero])
theorem room_l1 (n : Nat) (hn : n ≤ 1000) : ∀ (m : List S60) (i : Nat) (b : List Int), p.kids.drop i = m → i ≤ p.kids.length → b.length ≤ 37 * i →
    Ev (fun k => terrierref04_room.l1 k b (n : Int) (p.kids.map cK) ((p.kids.map cK).length : Int) i p.k p.t p.n (p.items.map cI) (p.kids.map cK) p.data p.ids) (if chk kidB (fun y x => keyLt y.f0 x.f0) (prevAt p.kids i) m = true then finR p (b ++ flat kidY m) n else noR)
  | [], i, b, hm, hi, hbl => by
    have _ := bp
    have _ := h1
    have _ := h2
    have _ := h3
    have _ := h4
    have : p.kids.length ≤ i := List.drop_eq_nil_iff.1 hm
    refine Ev.step (fun k => by rw [terrierref04_room.l1]) ?_
    refine Ev.iteF (by rw [List.length_map]; omega) ?_
    exact Ev.eq (j7_ev p _ _ b n (by simp) (by simp) h1 h2 h3 h4 hn) (by simp [chk, flat_nil])
  | x :: m, i, b, hm, hi, hbl => by
    obtain ⟨h, hx, hm'⟩ := drop_cons hm
    have e : rd_T62 (p.kids.map cK) i = cK x := (rd_map62 p.kids i h).trans (by rw [hx])
    have p4 : (256 : Int) ^ 4 = 4294967296 := by decide
    have ef0 : (cK x).f0 = x.f0 := rfl
    have ef1 : (cK x).f1 = x.f1 := rfl
    rw [chk_cons]
    refine Ev.step (fun k => by rw [terrierref04_room.l1]) (Ev.iteT (by rw [List.length_map]; omega) (Ev.iteT (by omega) (Ev.iteT (by rw [List.length_map]; omega) ?_)))
    have jT : Ev (fun k => terrierref04_room.j4 k b (n : Int) (p.kids.map cK) ((p.kids.map cK).length : Int) i true p.k p.t p.n (p.items.map cI) (p.kids.map cK) p.data p.ids x.f0 x.f1) noR := Ev.step (fun k => by rw [terrierref04_room.j4]) (Ev.iteT rfl (Ev.now _))
    rw [e, rid_eq, ef0, ef1]
    by_cases c1 : x.f0.length ≤ 32
    case neg => exact Ev.eq (Ev.iteT (by omega) jT) (by simp [kidB, c1])
    refine Ev.iteF (by omega) (Ev.bind0 rfl ?_)
    by_cases c : idB x.f1 = true
    case neg => exact Ev.eq (Ev.iteF c jT) (by simp [kidB, c])
    have hid := id_ok c
    have ck : kidB x = true := by simp [kidB, c, c1]
    have jF : Ev (fun k => terrierref04_room.j4 k b (n : Int) (p.kids.map cK) ((p.kids.map cK).length : Int) i false p.k p.t p.n (p.items.map cI) (p.kids.map cK) p.data p.ids x.f0 x.f1) (if chk kidB (fun y x => keyLt y.f0 x.f0) (some x) m = true then finR p (b ++ flat kidY (x :: m)) n else noR) := by
      refine Ev.step (fun k => by rw [terrierref04_room.j4]) (Ev.iteF (by decide) ?_)
      refine Ev.iteT (by omega) (Ev.bind0 rfl (Ev.iteT (by simp only [List.length_append, List.length_singleton]; omega) (Ev.bind0 rfl ?_)))
      refine Ev.bind (rputw_ev x.f1 4 (by omega) (by rw [p4]; omega) (by omega)) (Ev.iteT (by simp only [List.length_append, List.length_singleton, putB_length]; omega) ?_)
      rw [wrapInc (by omega)]
      have ih := room_l1 n hn m (i + 1) (b ++ kidY x) hm' h (by rw [List.length_append, kidY_len]; unfold kidLen; omega)
      rw [prevAt_succ h, hx] at ih
      have ey : b ++ [((x.f0.length : Int)) % 256] ++ x.f0 ++ putB x.f1 4 = b ++ kidY x := by simp [kidY, putB]
      rw [ey]
      exact Ev.eq ih (by rw [flat_cons, List.append_assoc])
    refine Ev.iteT c ?_
    by_cases c0 : 0 < i
    · obtain ⟨q1, q2⟩ := prevAt_pos (by omega) h c0
      refine Ev.iteT (by omega) ?_
      rw [q2, q1]
      refine Ev.iteT (by omega) (Ev.iteT (by rw [List.length_map]; omega) ?_)
      have e2 : (rd_T62 (p.kids.map cK) ((i - 1 : Nat) : Int)).f0 = (p.kids[i - 1]'(by omega)).f0 := by rw [rd_map62 p.kids (i - 1) (by omega)]; rfl
      rw [e2]
      refine Ev.bind (Ev.eq (Ahead_ev _ _ (by omega)) (cmp_lt _ _)) ?_
      by_cases d : keyLt (p.kids[i - 1]'(by omega)).f0 x.f0 = true
      · rw [d]
        exact Ev.eq jF (by simp [ck, d])
      · rw [Bool.eq_false_iff.2 d]
        exact Ev.eq jT (by simp [d])
    · obtain rfl : i = 0 := by omega
      exact Ev.eq (Ev.iteF (by omega) jF) (by simp [ck, prevAt_zero])
theorem room_l0 (n : Nat) (hn : n ≤ 1000) : ∀ (m : List S44) (i : Nat) (b : List Int), p.items.drop i = m → i ≤ p.items.length → b.length ≤ 10000 * i →
    Ev (fun k => terrierref04_room.l0 k b (n : Int) (p.items.map cI) ((p.items.map cI).length : Int) i p.k p.t p.n (p.items.map cI) (p.kids.map cK) p.data p.ids) (if chk itemB (fun y x => keyLt y.f0 x.f0) (prevAt p.items i) m = true then finR p (b ++ flat itemY m) n else noR)
  | [], i, b, hm, hi, hbl => by
    have _ := bp
    have _ := h1
    have _ := h2
    have _ := h3
    have _ := h4
    have : p.items.length ≤ i := List.drop_eq_nil_iff.1 hm
    refine Ev.step (fun k => by rw [terrierref04_room.l0]) ?_
    refine Ev.iteF (by rw [List.length_map]; omega) ?_
    exact Ev.eq (j7_ev p _ _ b n (by simp) (by simp) h1 h2 h3 h4 hn) (by simp [chk, flat_nil])
  | x :: m, i, b, hm, hi, hbl => by
    obtain ⟨h, hx, hm'⟩ := drop_cons hm
    have e : rd_T61 (p.items.map cI) i = cI x := (rd_map61 p.items i h).trans (by rw [hx])
    have p4 : (256 : Int) ^ 4 = 4294967296 := by decide
    rw [chk_cons]
    have jT : Ev (fun k => terrierref04_room.j1 k b (n : Int) i (decide (x.f2 ≤ 64)) (p.items.map cI) ((p.items.map cI).length : Int) i true p.k p.t p.n (p.items.map cI) (p.kids.map cK) p.data p.ids x.f0 x.f1 x.f2 x.f3) noR := Ev.step (fun k => by rw [terrierref04_room.j1]) (Ev.iteT rfl (Ev.now _))
    have jF : itemB x = true → Ev (fun k => terrierref04_room.j1 k b (n : Int) i (decide (x.f2 ≤ 64)) (p.items.map cI) ((p.items.map cI).length : Int) i false p.k p.t p.n (p.items.map cI) (p.kids.map cK) p.data p.ids x.f0 x.f1 x.f2 x.f3) (if ((match prevAt p.items i with | none => true | some y => keyLt y.f0 x.f0) && chk itemB (fun y x => keyLt y.f0 x.f0) (some x) m) = true then finR p (b ++ flat itemY (x :: m)) n else noR) := by
      intro hx0
      obtain ⟨x1, x2, x3, x4, x5⟩ := item_ok hx0
      have j2T : Ev (fun k => terrierref04_room.j2 k b (n : Int) (decide (x.f2 ≤ 64)) (p.items.map cI) ((p.items.map cI).length : Int) i true p.k p.t p.n (p.items.map cI) (p.kids.map cK) p.data p.ids x.f0 x.f1 x.f2 x.f3) noR := Ev.step (fun k => by rw [terrierref04_room.j2]) (Ev.iteT rfl (Ev.now _))
      have j2F : Ev (fun k => terrierref04_room.j2 k b (n : Int) (decide (x.f2 ≤ 64)) (p.items.map cI) ((p.items.map cI).length : Int) i false p.k p.t p.n (p.items.map cI) (p.kids.map cK) p.data p.ids x.f0 x.f1 x.f2 x.f3) (if chk itemB (fun y x => keyLt y.f0 x.f0) (some x) m = true then finR p (b ++ flat itemY (x :: m)) n else noR) := by
        have ll := itemY_len x
        have il : itemLen x ≤ 100 := by unfold itemLen; split <;> omega
        have ih := room_l0 n hn m (i + 1) (b ++ itemY x) hm' h (by rw [List.length_append, ll]; omega)
        rw [prevAt_succ h, hx] at ih
        refine Ev.step (fun k => by rw [terrierref04_room.j2]) (Ev.iteF (by decide) ?_)
        have eb : ([((x.f0.length : Int)) % 256, (wrap64 (Int.tdiv x.f2 256)) % 256, (Int.tmod x.f2 256) % 256] : List Int) = putB (x.f0.length : Int) 1 ++ putB x.f2 2 := by
          rw [Int.tdiv_eq_ediv_of_nonneg x2, Int.tmod_eq_emod_of_nonneg x2, wrap64_id (by omega) (by omega)]
          simp [putB]
        rw [eb, wrapInc (by omega)]
        have lp : (putB (x.f0.length : Int) 1 ++ putB x.f2 2).length = 3 := by simp [putB_length]
        refine Ev.bind0 rfl (Ev.iteT (by rw [lp]; omega) (Ev.bind0 rfl (Ev.iteT (by rw [List.length_append, lp]; omega) (Ev.bind0 rfl ?_))))
        by_cases c : x.f2 > 64
        · obtain ⟨y1, y2, y3⟩ := x5 (by omega)
          rw [decide_eq_false (by omega)]
          refine Ev.iteF (by decide) (Ev.bind (rputw_ev x.f3 4 (by omega) (by rw [p4]; omega) (by omega)) (Ev.iteT (by simp only [List.length_append, putB_length]; omega) ?_))
          have ey : b ++ (putB (x.f0.length : Int) 1 ++ putB x.f2 2) ++ x.f0 ++ putB x.f3 4 = b ++ itemY x := by unfold itemY; rw [if_pos c]; simp
          rw [ey]
          exact Ev.eq ih (by rw [flat_cons, List.append_assoc])
        · have y1 := (x4 (by omega)).1
          rw [decide_eq_true (by omega)]
          refine Ev.iteT rfl (Ev.iteT (by simp only [List.length_append, putB_length]; omega) ?_)
          have ey : b ++ (putB (x.f0.length : Int) 1 ++ putB x.f2 2) ++ x.f0 ++ x.f1 = b ++ itemY x := by unfold itemY; rw [if_neg c]; simp
          rw [ey]
          exact Ev.eq ih (by rw [flat_cons, List.append_assoc])
      refine Ev.step (fun k => by rw [terrierref04_room.j1]) (Ev.iteF (by decide) ?_)
      by_cases c0 : 0 < i
      · obtain ⟨q1, q2⟩ := prevAt_pos (by omega) h c0
        refine Ev.iteT (by omega) ?_
        rw [q2, q1]
        refine Ev.iteT (by omega) (Ev.iteT (by rw [List.length_map]; omega) ?_)
        have e2 : (rd_T61 (p.items.map cI) ((i - 1 : Nat) : Int)).f0 = (p.items[i - 1]'(by omega)).f0 := by rw [rd_map61 p.items (i - 1) (by omega)]; rfl
        rw [e2]
        refine Ev.bind (Ev.eq (Ahead_ev _ _ (by omega)) (cmp_lt _ _)) ?_
        by_cases d : keyLt (p.items[i - 1]'(by omega)).f0 x.f0 = true
        · rw [d]
          exact Ev.eq j2F (by simp [d])
        · rw [Bool.eq_false_iff.2 d]
          exact Ev.eq j2T (by simp [d])
      · obtain rfl : i = 0 := by omega
        exact Ev.eq (Ev.iteF (by omega) j2F) (by simp [prevAt_zero])
    have tot : ∀ c : Bool, c = itemB x → Ev (fun k => terrierref04_room.j1 k b (n : Int) i (decide (x.f2 ≤ 64)) (p.items.map cI) ((p.items.map cI).length : Int) i (!c) p.k p.t p.n (p.items.map cI) (p.kids.map cK) p.data p.ids x.f0 x.f1 x.f2 x.f3) (if (itemB x && ((match prevAt p.items i with | none => true | some y => keyLt y.f0 x.f0) && chk itemB (fun y x => keyLt y.f0 x.f0) (some x) m)) = true then finR p (b ++ flat itemY (x :: m)) n else noR) := by
      intro c hc
      subst hc
      by_cases g : itemB x = true
      · have := jF g
        rw [g]
        exact Ev.eq this (by simp)
      · rw [Bool.eq_false_iff.2 g]
        exact Ev.eq jT (by simp)
    refine Ev.step (fun k => by rw [terrierref04_room.l0]) (Ev.iteT (by rw [List.length_map]; omega) (Ev.iteT (by omega) (Ev.iteT (by rw [List.length_map]; omega) ?_)))
    rw [e, rid_eq]
    have f0 : (cI x).f0 = x.f0 := rfl
    have f1 : (cI x).f1 = x.f1 := rfl
    have f2 : (cI x).f2 = x.f2 := rfl
    have f3 : (cI x).f3 = x.f3 := rfl
    rw [f0, f1, f2, f3]
    have T : true = itemB x → Ev (fun k => terrierref04_room.j1 k b (n : Int) i (decide (x.f2 ≤ 64)) (p.items.map cI) ((p.items.map cI).length : Int) i false p.k p.t p.n (p.items.map cI) (p.kids.map cK) p.data p.ids x.f0 x.f1 x.f2 x.f3) _ := tot true
    have F : false = itemB x → Ev (fun k => terrierref04_room.j1 k b (n : Int) i (decide (x.f2 ≤ 64)) (p.items.map cI) ((p.items.map cI).length : Int) i true p.k p.t p.n (p.items.map cI) (p.kids.map cK) p.data p.ids x.f0 x.f1 x.f2 x.f3) _ := tot false
    have G := tot (idB x.f3)
    by_cases c1 : x.f0.length ≤ 32
    case neg => exact Ev.iteT (by omega) (Ev.eq (F (by unfold itemB; simp [c1])) (by cases prevAt p.items i <;> rfl))
    refine Ev.iteF (by omega) ?_
    by_cases c2 : x.f2 < 0
    · exact Ev.iteT c2 (Ev.eq (F (by unfold itemB; simp [show ¬ 0 ≤ x.f2 by omega])) (by cases prevAt p.items i <;> rfl))
    refine Ev.iteF c2 ?_
    by_cases c3 : x.f2 > 4096
    · exact Ev.iteT c3 (Ev.eq (F (by unfold itemB; simp [show ¬ x.f2 ≤ 4096 by omega])) (by cases prevAt p.items i <;> rfl))
    refine Ev.iteF c3 ?_
    have d0 : 0 ≤ x.f2 := by omega
    have d1 : x.f2 ≤ 4096 := by omega
    by_cases c4 : x.f2 ≤ 64
    · refine Ev.iteT c4 ?_
      by_cases c5 : (x.f1.length : Int) = x.f2
      · refine Ev.iteT c5 ?_
        by_cases c6 : x.f3 = 0
        · exact Ev.iteT c6 (Ev.iteT c4 (Ev.eq (T (by unfold itemB; simp [c1, d0, d1, c4, c5, c6])) (by cases prevAt p.items i <;> rfl)))
        · exact Ev.iteF c6 (Ev.eq (F (by unfold itemB; simp [c4, c6])) (by cases prevAt p.items i <;> rfl))
      · exact Ev.iteF c5 (Ev.eq (F (by unfold itemB; simp [c4, c5])) (by cases prevAt p.items i <;> rfl))
    · refine Ev.iteF c4 (Ev.iteF c4 ?_)
      by_cases c5 : x.f1.length = 0
      · exact Ev.iteT (by omega) (Ev.bind0 rfl (Ev.eq (G (by unfold itemB; simp [c1, d0, d1, c4, c5])) (by cases prevAt p.items i <;> rfl)))
      · exact Ev.iteF (by omega) (Ev.eq (F (by unfold itemB; simp [c4, c5])) (by cases prevAt p.items i <;> rfl))
theorem room_ev : Ev (fun k => terrierref04_room.f k p.k p.t p.n (p.items.map cI) (p.kids.map cK) p.data p.ids) (roomE p) := by
  unfold terrierref04_room.f roomE
  refine Ev.bind0 rfl ?_
  by_cases c1 : p.k = 1
  · rw [if_pos c1]
    refine Ev.iteT c1 ?_
    have := room_l0 p h1 h2 h3 h4 bp p.items.length h1 p.items 0 [] rfl (by omega) (by simp)
    simp only [List.length_map, List.nil_append, prevAt_zero] at this ⊢
    exact this
  rw [if_neg c1]
  refine Ev.iteF c1 ?_
  by_cases c2 : p.k = 2
  · rw [if_pos c2]
    refine Ev.iteT c2 ?_
    have := room_l1 p h1 h2 h3 h4 bp p.kids.length h2 p.kids 0 [] rfl (by omega) (by simp)
    simp only [List.length_map, List.nil_append, prevAt_zero] at this ⊢
    exact this
  rw [if_neg c2]
  refine Ev.iteF c2 ?_
  by_cases c3 : p.k = 3
  · rw [if_pos c3]
    refine Ev.iteT c3 (Ev.iteT (by simp; omega) ?_)
    rw [List.nil_append]
    exact j7_ev p _ _ p.data p.data.length (by simp) (by simp) h1 h2 h3 h4 h3
  rw [if_neg c3]
  refine Ev.iteF c3 ?_
  by_cases c4 : p.k = 4
  · rw [if_pos c4]
    refine Ev.iteT c4 ?_
    have := room_l2 p h1 h2 h3 h4 bp p.ids.length h4 p.ids 0 [] rfl (by omega) (by simp)
    simp only [List.nil_append, prevAt_zero] at this
    exact this
  rw [if_neg c4]
  exact Ev.iteF c4 (Ev.now _)
theorem rRight_ev : Ev (fun k => terrierref04_Right.f k p.k p.t p.n (p.items.map cI) (p.kids.map cK) p.data p.ids) (rightB p) := by
  unfold terrierref04_Right.f
  refine Ev.bind (room_ev p h1 h2 h3 h4 bp) (Ev.eq (Ev.now _) ?_)
  rw [room_right]
  by_cases r : rightB p = true
  · rw [if_pos r, r]
  · rw [if_neg r, Bool.eq_false_iff.2 r]
end
theorem rpad_ev : ∀ (d : Nat) (b : List Int), b.length + d = 252 → Bytes b → Ev (fun k => terrierref04_Encode.l0 k b) (sealB (b ++ List.replicate d 0))
  | 0, b, h, hb => by
    refine Ev.step (fun k => terrierref04_Encode.l0_eq k _) ?_
    refine Ev.iteF (by omega) ?_
    exact Ev.eq (Ev.bind (refSeal_ev b hb (by omega)) (Ev.now _)) (by simp)
  | d + 1, b, h, hb => by
    refine Ev.step (fun k => terrierref04_Encode.l0_eq k _) (Ev.iteT (by omega) (Ev.iteT (by omega) ?_))
    have ih := rpad_ev d (b ++ [0]) (by simp only [List.length_append, List.length_singleton]; omega) (bytes_append.2 ⟨hb, fun x hx => by rw [List.mem_singleton.1 hx]; omega⟩)
    refine Ev.eq ih ?_
    rw [List.append_assoc]
    rfl
theorem rEncode_ev (p : Pg) (ok : OkP p) (h1 : p.items.length ≤ 1000) (h2 : p.kids.length ≤ 1000) (h3 : p.data.length ≤ 1000) (h4 : p.ids.length ≤ 1000) (bp : ByP p) (rp : rightB p = true) : Ev (fun k => terrierref04_Encode.f k p.k p.t p.n (p.items.map cI) (p.kids.map cK) p.data p.ids) (sealB (pad (bodyY p))) := by
  have r := right_ok rp
  have hr := room_ev p h1 h2 h3 h4 bp
  rw [room_right, if_pos rp] at hr
  have bl := body_len p
  have bu := r.used
  have p8 := pow256_8
  have p4 : (256 : Int) ^ 4 = 4294967296 := by decide
  have p2 : (256 : Int) ^ 2 = 65536 := by decide
  have rk := r.k
  have rn := r.n
  have rc := r.c
  have rt := ok.t
  have fl : (flat itemY p.items ++ flat kidY p.kids ++ p.data ++ flat idY p.ids).length = usedN p := by
    have := bl
    unfold bodyY at this
    simp only [List.length_append, head_len] at this ⊢
    omega
  unfold terrierref04_Encode.f
  refine Ev.bind hr (Ev.bind0 rfl (Ev.bind (rput_ev p.t 8 rt.1 (by rw [p8]; exact rt.2) (by omega)) (Ev.iteT (by simp [putB_length]) (Ev.bind0 rfl ?_))))
  refine Ev.bind (rputw_ev p.n 4 (by omega) (by rw [p4]; omega) (by omega)) (Ev.iteT (by simp [putB_length]) (Ev.bind0 rfl ?_))
  refine Ev.bind (rputw_ev (thingsE p).1 2 (by omega) (by rw [p2]; omega) (by omega)) (Ev.iteT (by simp [putB_length]) (Ev.bind0 rfl (Ev.iteT (by rw [fl]; simp [putB_length]; omega) ?_)))
  have eb : [p.k % 256] ++ putB p.t 8 ++ putB p.n 4 ++ putB (thingsE p).1 2 ++ (flat itemY p.items ++ flat kidY p.kids ++ p.data ++ flat idY p.ids) = bodyY p := by
    have e1 : [p.k % 256] = putB p.k 1 := by simp [putB]
    rw [e1]
    simp [bodyY, headY]
  dsimp only
  rw [eb, pad_eq (by omega)]
  exact rpad_ev (252 - (bodyY p).length) (bodyY p) (by omega) (body_bytes ok)
end Go.Proofs.Ytandeendeoempaa.PagR
