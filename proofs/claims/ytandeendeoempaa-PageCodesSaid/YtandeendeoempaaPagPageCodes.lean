/- What package page computes, as plain functions: whether a page is right, how much of its room it uses, and its bytes. -/
import Derived.Test.YtandeendeoempaaSumPageCodes
import Derived.Test.YtandeendeoempaaCpy
import Derived.Test.YtandeendeoempaaPCx1
import Derived.Test.YtandeendeoempaaPCx2
import Derived.Test.YtandeendeoempaaPCx3
import Derived.Test.YtandeendeoempaaPCx4
import Derived.Test.YtandeendeoempaaPCx5
import Derived.Test.YtandeendeoempaaPCx7
import Derived.Test.YtandeendeoempaaPCx8
set_option linter.unusedSimpArgs false
namespace Go.Proofs.Ytandeendeoempaa.Pag
open Go.RowKit Go.Proofs.YtandeendeoempaaW.PrintWords Go.Proofs.YtandeendeoempaaW.PrintLast Go.Proofs.YtandeendeoempaaW.PrintMore Go.Proofs.Ytandeendeoempaa.PC Go.Proofs.Ytandeendeoempaa.Base Go.Proofs.Ytandeendeoempaa.Oct Go.Proofs.Ytandeendeoempaa.Crc Go.Proofs.Ytandeendeoempaa.Sum

structure Pg where
  k : Int
  t : Int
  n : Int
  items : List S44
  kids : List S60
  data : List Int
  ids : List Int
theorem rd_getD {α : Type} (l : List α) (z : α) (i : Nat) (h : i < l.length) : l.getD (i : Int).toNat z = l[i] := by
  rw [Int.toNat_natCast, List.getD_eq_getElem?_getD, List.getElem?_eq_getElem h]; rfl
theorem drop_cons {α : Type} {l m : List α} {x : α} {i : Nat} (h : l.drop i = x :: m) : ∃ h : i < l.length, l[i] = x ∧ l.drop (i + 1) = m := by
  have hi : i < l.length := by
    rcases Nat.lt_or_ge i l.length with h1 | h1
    · exact h1
    · rw [List.drop_of_length_le h1] at h; cases h
  rw [List.drop_eq_getElem_cons hi] at h
  simp only [List.cons.injEq] at h
  exact ⟨hi, h.1, h.2⟩

/-! ### how much of its room a page uses -/
def itemLen (x : S44) : Nat := 3 + x.f0.length + (if x.f2 > 64 then 4 else x.f1.length)
def kidLen (x : S60) : Nat := 5 + x.f0.length
def usedN (p : Pg) : Nat := p.data.length + 4 * p.ids.length + (p.items.map itemLen).sum + (p.kids.map kidLen).sum
theorem len_le {α : Type} (f : α → Nat) (c : Nat) (h : ∀ x, c ≤ f x) : ∀ l : List α, c * l.length ≤ (l.map f).sum
  | [] => by simp
  | x :: l => by
    have := len_le f c h l
    have := h x
    simp only [List.map_cons, List.sum_cons, List.length_cons, Nat.mul_add, Nat.mul_one]
    omega
theorem items_le (l : List S44) : 3 * l.length ≤ (l.map itemLen).sum := len_le itemLen 3 (fun x => by unfold itemLen; omega) l
theorem kids_le (l : List S60) : 5 * l.length ≤ (l.map kidLen).sum := len_le kidLen 5 (fun x => by unfold kidLen; omega) l
theorem Used_l1 (ks : List S60) (hl : ks.length ≤ 4611686018427387904) : ∀ (m : List S60) (i a : Nat), ks.drop i = m → i ≤ ks.length → a + (m.map kidLen).sum < 4611686018427387904 →
    Ev (fun k => page_Used.l1 k a ks (ks.length : Int) i) ((a + (m.map kidLen).sum : Nat) : Int)
  | [], i, a, hm, hi, ha => by
    have : ks.length ≤ i := List.drop_eq_nil_iff.1 hm
    refine Ev.step (fun k => by rw [page_Used.l1]) (Ev.iteF (by omega) (Ev.eq (Ev.now _) ?_))
    simp
  | x :: m, i, a, hm, hi, ha => by
    obtain ⟨h, hx, hm'⟩ := drop_cons hm
    have e : rd_T60 ks i = x := (rd_getD ks _ i h).trans hx
    simp only [List.map_cons, List.sum_cons] at ha ⊢
    refine Ev.step (fun k => by rw [page_Used.l1]) (Ev.iteT (by omega) (Ev.iteT (by omega) (Ev.iteT (by omega) ?_)))
    rw [e, wrapInc (by omega)]
    have e2 : wrap64 ((a : Int) + wrap64 (5 + (x.f0.length : Int))) = ((a + kidLen x : Nat) : Int) := by
      unfold kidLen at ha ⊢
      rw [wrap64_id (n := 5 + (x.f0.length : Int)) (by omega) (by omega), wrap64_id (by omega) (by omega)]
      omega
    rw [e2, ← Nat.add_assoc]
    exact Used_l1 ks hl m (i + 1) _ hm' h (by omega)
theorem Used_l0 (p : Pg) (hl : p.items.length ≤ 4611686018427387904) (hk : p.kids.length ≤ 4611686018427387904) : ∀ (m : List S44) (i a : Nat), p.items.drop i = m → i ≤ p.items.length → a + (m.map itemLen).sum + (p.kids.map kidLen).sum < 4611686018427387904 →
    Ev (fun k => page_Used.l0 k a p.items (p.items.length : Int) i p.k p.t p.n p.items p.kids p.data p.ids) ((a + (m.map itemLen).sum + (p.kids.map kidLen).sum : Nat) : Int)
  | [], i, a, hm, hi, ha => by
    have : p.items.length ≤ i := List.drop_eq_nil_iff.1 hm
    refine Ev.step (fun k => by rw [page_Used.l0]) ?_
    refine Ev.iteF (by omega) ?_
    refine Ev.eq (Used_l1 p.kids hk p.kids 0 a rfl (by omega) (by simp at ha; omega)) ?_
    simp
  | x :: m, i, a, hm, hi, ha => by
    obtain ⟨h, hx, hm'⟩ := drop_cons hm
    have e : rd_T44 p.items i = x := (rd_getD p.items _ i h).trans hx
    simp only [List.map_cons, List.sum_cons] at ha ⊢
    refine Ev.step (fun k => by rw [page_Used.l0]) (Ev.iteT (by omega) (Ev.iteT (by omega) (Ev.iteT (by omega) ?_)))
    rw [e, wrapInc (by omega), show a + (itemLen x + (m.map itemLen).sum) + (p.kids.map kidLen).sum = (a + itemLen x) + (m.map itemLen).sum + (p.kids.map kidLen).sum by omega]
    have ih := Used_l0 p hl hk m (i + 1) (a + itemLen x) hm' h (by omega)
    have ub : 3 + x.f0.length ≤ itemLen x := by unfold itemLen; omega
    have w1 : wrap64 ((a : Int) + wrap64 (3 + (x.f0.length : Int))) = ((a + (3 + x.f0.length) : Nat) : Int) := by
      rw [wrap64_id (n := 3 + (x.f0.length : Int)) (by omega) (by omega), wrap64_id (by omega) (by omega)]
      omega
    rw [w1]
    by_cases c : x.f2 > 64
    · have il : itemLen x = 3 + x.f0.length + 4 := by unfold itemLen; rw [if_pos c]
      refine Ev.iteT c ?_
      rw [wrap64_id (n := ((a + (3 + x.f0.length) : Nat) : Int) + 4) (by omega) (by omega)]
      rw [show ((a + (3 + x.f0.length) : Nat) : Int) + 4 = ((a + itemLen x : Nat) : Int) by rw [il]; omega]
      exact ih
    · have il : itemLen x = 3 + x.f0.length + x.f1.length := by unfold itemLen; rw [if_neg c]
      refine Ev.iteF c ?_
      rw [wrap64_id (n := ((a + (3 + x.f0.length) : Nat) : Int) + (x.f1.length : Int)) (by omega) (by omega)]
      rw [show ((a + (3 + x.f0.length) : Nat) : Int) + (x.f1.length : Int) = ((a + itemLen x : Nat) : Int) by rw [il]; omega]
      exact ih
theorem Used_ev (p : Pg) (hu : usedN p < 4611686018427387904) : Ev (fun k => page_Used.f k p.k p.t p.n p.items p.kids p.data p.ids) (usedN p : Int) := by
  unfold page_Used.f
  have h1 := items_le p.items
  have h2 := kids_le p.kids
  unfold usedN at hu ⊢
  rw [wrap64_id (n := 4 * (p.ids.length : Int)) (by omega) (by omega), wrap64_id (n := (p.data.length : Int) + 4 * (p.ids.length : Int)) (by omega) (by omega)]
  rw [show (p.data.length : Int) + 4 * (p.ids.length : Int) = ((p.data.length + 4 * p.ids.length : Nat) : Int) by omega]
  exact Used_l0 p (by omega) (by omega) p.items 0 _ rfl (by omega) (by omega)

/-! ### is it a page? -/
def idB (n : Int) : Bool := decide (1 ≤ n) && decide (n < 1024)
theorem id_eq (n : Int) : page_id.f n = some (idB n) := by
  unfold page_id.f idB
  by_cases h : n ≥ 1
  · rw [if_pos h]; simp [h]
  · rw [if_neg h]; simp [h]
def itemB (x : S44) : Bool := decide (x.f0.length ≤ 32) && (decide (0 ≤ x.f2) && (decide (x.f2 ≤ 4096) && (if x.f2 ≤ 64 then decide ((x.f1.length : Int) = x.f2) && decide (x.f3 = 0) else decide (x.f1.length = 0) && idB x.f3)))
theorem item_ev (x : S44) : Ev (fun k => page_item.f k x.f0 x.f1 x.f2 x.f3) (itemB x) := by
  have jt : Ev (fun k => page_item.j0 k true x.f0 x.f1 x.f2 x.f3) false := Ev.step (fun k => by rw [page_item.j0]) (Ev.iteT rfl (Ev.now _))
  unfold page_item.f page_key.f itemB
  refine Ev.bind0 rfl ?_
  by_cases c1 : x.f0.length ≤ 32
  case neg => exact Ev.eq (Ev.iteF (by simp; omega) jt) (by simp [c1])
  refine Ev.iteT (by simp; omega) ?_
  by_cases c2 : x.f2 < 0
  · exact Ev.eq (Ev.iteT c2 jt) (by simp [show ¬ (0 ≤ x.f2) by omega])
  refine Ev.iteF c2 ?_
  by_cases c3 : x.f2 > 4096
  · rw [decide_eq_true c3]
    exact Ev.eq jt (by simp [show ¬ (x.f2 ≤ 4096) by omega])
  rw [decide_eq_false c3]
  refine Ev.step (fun k => by rw [page_item.j0]) (Ev.iteF (by decide) ?_)
  have h0 : 0 ≤ x.f2 := by omega
  have h4 : x.f2 ≤ 4096 := by omega
  by_cases c4 : x.f2 ≤ 64
  · refine Ev.iteT c4 ?_
    by_cases c5 : (x.f1.length : Int) = x.f2
    · exact Ev.eq (Ev.iteT c5 (Ev.now _)) (by simp [c1, h0, h4, c4, c5]; rfl)
    · exact Ev.eq (Ev.iteF c5 (Ev.now _)) (by simp [c1, h0, h4, c4, c5])
  · refine Ev.iteF c4 ?_
    by_cases c5 : x.f1.length = 0
    · refine Ev.iteT (by omega) ?_
      rw [id_eq]
      exact Ev.eq (Ev.bind0 rfl (Ev.now _)) (by simp [c1, h0, h4, c4, c5])
    · exact Ev.eq (Ev.iteF (by omega) (Ev.now _)) (by simp [c1, h0, h4, c4, c5])
def chk {α : Type} (f : α → Bool) (lt : α → α → Bool) : Option α → List α → Bool
  | _, [] => true
  | p, x :: l => f x && ((match p with | none => true | some y => lt y x) && chk f lt (some x) l)
def prevAt {α : Type} (l : List α) (i : Nat) : Option α := if i = 0 then none else l[i - 1]?
theorem prevAt_succ {α : Type} {l : List α} {i : Nat} (h : i < l.length) : prevAt l (i + 1) = some l[i] := by simp [prevAt, h]
theorem prevAt_pos {α : Type} {l : List α} {i : Nat} (hl : l.length ≤ 4611686018427387904) (h : i < l.length) (h0 : 0 < i) : prevAt l i = some (l[i - 1]'(by omega)) ∧ wrap64 ((i : Int) - 1) = ((i - 1 : Nat) : Int) := by
  constructor
  · unfold prevAt
    rw [if_neg (by omega), List.getElem?_eq_getElem (by omega)]
  · rw [wrap64_id (by omega) (by omega)]; omega
theorem prevAt_zero {α : Type} (l : List α) : prevAt l 0 = none := rfl
def idLt (y x : Int) : Bool := decide (y < x)
def keyLt (y x : List Int) : Bool := decide (cmpB y x < 0)
def itemsB (l : List S44) : Bool := chk itemB (fun y x => keyLt y.f0 x.f0) none l
def kidB (x : S60) : Bool := decide (x.f0.length ≤ 32) && idB x.f1
def kidsB (l : List S60) : Bool := chk kidB (fun y x => keyLt y.f0 x.f0) none l
def idsB (l : List Int) : Bool := chk idB idLt none l
theorem chk_cons {α : Type} (f : α → Bool) (lt : α → α → Bool) (p : Option α) (x : α) (l : List α) : chk f lt p (x :: l) = (f x && ((match p with | none => true | some y => lt y x) && chk f lt (some x) l)) := rfl
section
variable (p : Pg) (hu : usedN p < 4611686018427387904)
include hu
theorem lens : p.items.length ≤ 4611686018427387904 ∧ p.kids.length ≤ 4611686018427387904 ∧ p.ids.length ≤ 4611686018427387904 := by
  have h1 := items_le p.items
  have h2 := kids_le p.kids
  unfold usedN at hu
  omega
theorem Right_l2 : ∀ (m : List Int) (i : Nat), p.ids.drop i = m → i ≤ p.ids.length → Ev (fun k => page_Right.l2 k p.ids (p.ids.length : Int) i p.k p.t p.n p.items p.kids p.data p.ids) (chk idB idLt (prevAt p.ids i) m && decide (usedN p ≤ 237))
  | [], i, hm, hi => by
    have : p.ids.length ≤ i := List.drop_eq_nil_iff.1 hm
    refine Ev.step (fun k => by rw [page_Right.l2]) (Ev.iteF (by omega) (Ev.bind (Used_ev p hu) (Ev.eq (Ev.now _) ?_)))
    simp [chk]
    omega
  | x :: m, i, hm, hi => by
    obtain ⟨h, hx, hm'⟩ := drop_cons hm
    obtain ⟨_, _, l3⟩ := lens p hu
    have e : rd p.ids i = x := (rd_getD p.ids _ i h).trans hx
    have ih := Right_l2 m (i + 1) hm' h
    rw [prevAt_succ h, hx] at ih
    rw [chk_cons]
    refine Ev.step (fun k => by rw [page_Right.l2]) (Ev.iteT (by omega) (Ev.iteT (by omega) (Ev.iteT (by omega) ?_)))
    have jT : Ev (fun k => page_Right.j6 k p.ids (p.ids.length : Int) i true p.k p.t p.n p.items p.kids p.data p.ids) false := Ev.step (fun k => by rw [page_Right.j6]) (Ev.iteT rfl (Ev.now _))
    have jF : Ev (fun k => page_Right.j6 k p.ids (p.ids.length : Int) i false p.k p.t p.n p.items p.kids p.data p.ids) (chk idB idLt (some x) m && decide (usedN p ≤ 237)) := by
      refine Ev.step (fun k => by rw [page_Right.j6]) (Ev.iteF (by decide) ?_)
      rw [wrapInc (by omega)]
      exact ih
    rw [e, id_eq]
    refine Ev.bind0 rfl ?_
    by_cases c : idB x = true
    case neg => exact Ev.eq (Ev.iteF c jT) (by simp [c])
    refine Ev.iteT c ?_
    by_cases c0 : 0 < i
    · obtain ⟨q1, q2⟩ := prevAt_pos l3 h c0
      refine Ev.iteT (by omega) ?_
      rw [q2, q1]
      refine Ev.iteT (by omega) (Ev.iteT (by omega) ?_)
      have e2 : rd p.ids ((i - 1 : Nat) : Int) = p.ids[i - 1]'(by omega) := rd_getD p.ids _ (i - 1) (by omega)
      rw [e2]
      by_cases d : p.ids[i - 1]'(by omega) ≥ x
      · rw [decide_eq_true d]
        exact Ev.eq jT (by simp [idLt, show ¬ p.ids[i - 1]'(by omega) < x by omega])
      · rw [decide_eq_false d]
        exact Ev.eq jF (by simp [idLt, c, show p.ids[i - 1]'(by omega) < x by omega])
    · obtain rfl : i = 0 := by omega
      exact Ev.eq (Ev.iteF (by omega) jF) (by simp [c, prevAt_zero])
theorem Right_l1 (hkb : ∀ x ∈ p.kids, Bytes x.f0) : ∀ (m : List S60) (i : Nat), p.kids.drop i = m → i ≤ p.kids.length → Ev (fun k => page_Right.l1 k p.kids (p.kids.length : Int) i p.k p.t p.n p.items p.kids p.data p.ids) (chk kidB (fun y x => keyLt y.f0 x.f0) (prevAt p.kids i) m && (idsB p.ids && decide (usedN p ≤ 237)))
  | [], i, hm, hi => by
    have : p.kids.length ≤ i := List.drop_eq_nil_iff.1 hm
    refine Ev.step (fun k => by rw [page_Right.l1]) ?_
    refine Ev.iteF (by omega) ?_
    refine Ev.eq (Right_l2 p hu p.ids 0 rfl (by omega)) ?_
    simp [chk, prevAt_zero, idsB]
  | x :: m, i, hm, hi => by
    obtain ⟨h, hx, hm'⟩ := drop_cons hm
    obtain ⟨_, l2, _⟩ := lens p hu
    have e : rd_T60 p.kids i = x := (rd_getD p.kids _ i h).trans hx
    have ih := Right_l1 hkb m (i + 1) hm' h
    rw [prevAt_succ h, hx] at ih
    rw [chk_cons]
    refine Ev.step (fun k => by rw [page_Right.l1]) (Ev.iteT (by omega) (Ev.iteT (by omega) (Ev.iteT (by omega) ?_)))
    have jT : Ev (fun k => page_Right.j4 k p.kids (p.kids.length : Int) i true p.k p.t p.n p.items p.kids p.data p.ids) false := Ev.step (fun k => by rw [page_Right.j4]) (Ev.iteT rfl (Ev.now _))
    have jF : Ev (fun k => page_Right.j4 k p.kids (p.kids.length : Int) i false p.k p.t p.n p.items p.kids p.data p.ids) (chk kidB (fun y x => keyLt y.f0 x.f0) (some x) m && (idsB p.ids && decide (usedN p ≤ 237))) := by
      refine Ev.step (fun k => by rw [page_Right.j4]) (Ev.iteF (by decide) ?_)
      rw [wrapInc (by omega)]
      exact ih
    rw [e, id_eq]
    unfold page_key.f
    refine Ev.bind0 rfl ?_
    by_cases c1 : x.f0.length ≤ 32
    case neg => exact Ev.eq (Ev.iteF (by simp; omega) jT) (by simp [kidB, c1])
    refine Ev.iteT (by simp; omega) (Ev.bind0 rfl ?_)
    by_cases c : idB x.f1 = true
    case neg => exact Ev.eq (Ev.iteF c jT) (by simp [kidB, c])
    have ck : kidB x = true := by simp [kidB, c, c1]
    refine Ev.iteT c ?_
    by_cases c0 : 0 < i
    · obtain ⟨q1, q2⟩ := prevAt_pos l2 h c0
      refine Ev.iteT (by omega) ?_
      rw [q2, q1]
      refine Ev.iteT (by omega) (Ev.iteT (by omega) ?_)
      have e2 : rd_T60 p.kids ((i - 1 : Nat) : Int) = p.kids[i - 1]'(by omega) := rd_getD p.kids _ (i - 1) (by omega)
      rw [e2, Cmp_eq (hkb _ (List.getElem_mem _)) (hkb _ (by rw [← hx]; exact List.getElem_mem _))]
      refine Ev.bind0 rfl ?_
      by_cases d : cmpB (p.kids[i - 1]'(by omega)).f0 x.f0 ≥ 0
      · rw [decide_eq_true d]
        exact Ev.eq jT (by simp [keyLt, show ¬ cmpB (p.kids[i - 1]'(by omega)).f0 x.f0 < 0 by omega])
      · rw [decide_eq_false d]
        exact Ev.eq jF (by simp [keyLt, ck, show cmpB (p.kids[i - 1]'(by omega)).f0 x.f0 < 0 by omega])
    · obtain rfl : i = 0 := by omega
      exact Ev.eq (Ev.iteF (by omega) jF) (by simp [ck, prevAt_zero])
theorem Right_l0 (hib : ∀ x ∈ p.items, Bytes x.f0) (hkb : ∀ x ∈ p.kids, Bytes x.f0) : ∀ (m : List S44) (i : Nat), p.items.drop i = m → i ≤ p.items.length → Ev (fun k => page_Right.l0 k p.items (p.items.length : Int) i p.k p.t p.n p.items p.kids p.data p.ids) (chk itemB (fun y x => keyLt y.f0 x.f0) (prevAt p.items i) m && (kidsB p.kids && (idsB p.ids && decide (usedN p ≤ 237))))
  | [], i, hm, hi => by
    have : p.items.length ≤ i := List.drop_eq_nil_iff.1 hm
    refine Ev.step (fun k => by rw [page_Right.l0]) ?_
    refine Ev.iteF (by omega) ?_
    refine Ev.eq (Right_l1 p hu hkb p.kids 0 rfl (by omega)) ?_
    simp [chk, prevAt_zero, kidsB]
  | x :: m, i, hm, hi => by
    obtain ⟨h, hx, hm'⟩ := drop_cons hm
    obtain ⟨l1, _, _⟩ := lens p hu
    have e : rd_T44 p.items i = x := (rd_getD p.items _ i h).trans hx
    have ih := Right_l0 hib hkb m (i + 1) hm' h
    rw [prevAt_succ h, hx] at ih
    rw [chk_cons]
    refine Ev.step (fun k => by rw [page_Right.l0]) (Ev.iteT (by omega) (Ev.iteT (by omega) (Ev.iteT (by omega) ?_)))
    have jT : Ev (fun k => page_Right.j2 k p.items (p.items.length : Int) i true p.k p.t p.n p.items p.kids p.data p.ids) false := Ev.step (fun k => by rw [page_Right.j2]) (Ev.iteT rfl (Ev.now _))
    have jF : Ev (fun k => page_Right.j2 k p.items (p.items.length : Int) i false p.k p.t p.n p.items p.kids p.data p.ids) (chk itemB (fun y x => keyLt y.f0 x.f0) (some x) m && (kidsB p.kids && (idsB p.ids && decide (usedN p ≤ 237)))) := by
      refine Ev.step (fun k => by rw [page_Right.j2]) (Ev.iteF (by decide) ?_)
      rw [wrapInc (by omega)]
      exact ih
    rw [e]
    refine Ev.bind (item_ev x) ?_
    by_cases c : itemB x = true
    case neg => exact Ev.eq (Ev.iteF c jT) (by simp [c])
    refine Ev.iteT c ?_
    by_cases c0 : 0 < i
    · obtain ⟨q1, q2⟩ := prevAt_pos l1 h c0
      refine Ev.iteT (by omega) ?_
      rw [q2, q1]
      refine Ev.iteT (by omega) (Ev.iteT (by omega) ?_)
      have e2 : rd_T44 p.items ((i - 1 : Nat) : Int) = p.items[i - 1]'(by omega) := rd_getD p.items _ (i - 1) (by omega)
      rw [e2, Cmp_eq (hib _ (List.getElem_mem _)) (hib _ (by rw [← hx]; exact List.getElem_mem _))]
      refine Ev.bind0 rfl ?_
      by_cases d : cmpB (p.items[i - 1]'(by omega)).f0 x.f0 ≥ 0
      · rw [decide_eq_true d]
        exact Ev.eq jT (by simp [keyLt, show ¬ cmpB (p.items[i - 1]'(by omega)).f0 x.f0 < 0 by omega])
      · rw [decide_eq_false d]
        exact Ev.eq jF (by simp [keyLt, c, show cmpB (p.items[i - 1]'(by omega)).f0 x.f0 < 0 by omega])
    · obtain rfl : i = 0 := by omega
      exact Ev.eq (Ev.iteF (by omega) jF) (by simp [c, prevAt_zero])
end
def thingsE (p : Pg) : Int × Bool := page_things.g p.k p.items.length p.kids.length p.data.length p.ids.length
/-- What Right asks ahead of its rows. -/
def headB (p : Pg) : Bool := (thingsE p).2 && ((decide (1 ≤ (thingsE p).1) || decide (p.k = 4)) && (decide ((thingsE p).1 ≤ 237) && (decide (0 ≤ p.n) && (decide (p.n < 1024) && (decide (p.n ≤ 0) || (decide (p.k ≠ 1) && decide (p.k ≠ 2)))))))
def rightB (p : Pg) : Bool := headB p && (itemsB p.items && (kidsB p.kids && (idsB p.ids && decide (usedN p ≤ 237))))
theorem Right_ev (p : Pg) (hu : usedN p < 4611686018427387904) (hib : ∀ x ∈ p.items, Bytes x.f0) (hkb : ∀ x ∈ p.kids, Bytes x.f0) : Ev (fun k => page_Right.f k p.k p.t p.n p.items p.kids p.data p.ids) (rightB p) := by
  have jt : Ev (fun k => page_Right.j0 k true p.k p.t p.n p.items p.kids p.data p.ids) false := Ev.step (fun k => by rw [page_Right.j0]) (Ev.iteT rfl (Ev.now _))
  have jf : Ev (fun k => page_Right.j0 k false p.k p.t p.n p.items p.kids p.data p.ids) (itemsB p.items && (kidsB p.kids && (idsB p.ids && decide (usedN p ≤ 237)))) := by
    refine Ev.step (fun k => by rw [page_Right.j0]) ?_
    refine Ev.iteF (by decide) ?_
    exact Right_l0 p hu hib hkb p.items 0 rfl (by omega)
  have et : page_things.f p.k p.t p.n p.items p.kids p.data p.ids = some (thingsE p) := rfl
  unfold page_Right.f
  refine Ev.bind0 et ?_
  unfold rightB headB
  clear et
  generalize thingsE p = b
  by_cases c2 : b.2 = true
  case neg => exact Ev.eq (Ev.iteF c2 jt) (by simp [c2])
  refine Ev.iteT c2 ?_
  have tail : Ev (fun k => if b.1 > 237 then page_Right.j0 k true p.k p.t p.n p.items p.kids p.data p.ids else if p.n < 0 then page_Right.j0 k true p.k p.t p.n p.items p.kids p.data p.ids else if p.n ≥ 1024 then page_Right.j0 k true p.k p.t p.n p.items p.kids p.data p.ids else if p.n > 0 then (if p.k = 1 then page_Right.j0 k true p.k p.t p.n p.items p.kids p.data p.ids else page_Right.j0 k (p.k == 2) p.k p.t p.n p.items p.kids p.data p.ids) else page_Right.j0 k false p.k p.t p.n p.items p.kids p.data p.ids)
      ((decide (b.1 ≤ 237) && (decide (0 ≤ p.n) && (decide (p.n < 1024) && (decide (p.n ≤ 0) || (decide (p.k ≠ 1) && decide (p.k ≠ 2)))))) && (itemsB p.items && (kidsB p.kids && (idsB p.ids && decide (usedN p ≤ 237))))) := by
    by_cases d1 : b.1 > 237
    · exact Ev.eq (Ev.iteT d1 jt) (by simp [show ¬ b.1 ≤ 237 by omega])
    refine Ev.iteF d1 ?_
    have d1' : b.1 ≤ 237 := by omega
    by_cases d2 : p.n < 0
    · exact Ev.eq (Ev.iteT d2 jt) (by simp [show ¬ 0 ≤ p.n by omega])
    refine Ev.iteF d2 ?_
    have d2' : 0 ≤ p.n := by omega
    by_cases d3 : p.n ≥ 1024
    · exact Ev.eq (Ev.iteT d3 jt) (by simp [show ¬ p.n < 1024 by omega])
    refine Ev.iteF d3 ?_
    have d3' : p.n < 1024 := by omega
    by_cases d4 : p.n > 0
    · have d4' : ¬ p.n ≤ 0 := by omega
      refine Ev.iteT d4 ?_
      by_cases k1 : p.k = 1
      · exact Ev.eq (Ev.iteT k1 jt) (by simp [d4', k1])
      refine Ev.iteF k1 ?_
      by_cases k2 : p.k = 2
      · rw [beq_iff_eq.2 k2]
        exact Ev.eq jt (by simp [d4', k2])
      · rw [beq_eq_false_iff_ne.2 k2]
        exact Ev.eq jf (by simp [d1', d2', d3', k1, k2])
    · exact Ev.eq (Ev.iteF d4 jf) (by simp [d1', d2', d3', show p.n ≤ 0 by omega])
  by_cases c1 : b.1 < 1
  · refine Ev.iteT c1 ?_
    by_cases k4 : p.k = 4
    · exact Ev.eq (Ev.iteT k4 tail) (by simp [c2, k4, Bool.and_assoc])
    · exact Ev.eq (Ev.iteF k4 jt) (by simp [k4, show ¬ 1 ≤ b.1 by omega])
  · exact Ev.eq (Ev.iteF c1 tail) (by simp [c2, show 1 ≤ b.1 by omega, Bool.and_assoc])
end Go.Proofs.Ytandeendeoempaa.Pag
