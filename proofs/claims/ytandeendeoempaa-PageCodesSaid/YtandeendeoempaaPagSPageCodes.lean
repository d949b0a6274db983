/- A page as the document has it, and whether two such are the same. -/
import Derived.Test.YtandeendeoempaaPagEPageCodes
import Derived.Test.YtandeendeoempaaPCx10
import Derived.Test.YtandeendeoempaaPCx13
import Derived.Test.YtandeendeoempaaPCx14
set_option linter.unusedSimpArgs false
namespace Go.Proofs.Ytandeendeoempaa.PagS
open Go.RowKit Go.Proofs.YtandeendeoempaaW.PrintWords Go.Proofs.YtandeendeoempaaW.PrintLast Go.Proofs.YtandeendeoempaaW.PrintMore Go.Proofs.Ytandeendeoempaa.PC Go.Proofs.Ytandeendeoempaa.Base Go.Proofs.Ytandeendeoempaa.Oct Go.Proofs.Ytandeendeoempaa.Crc Go.Proofs.Ytandeendeoempaa.Sum Go.Proofs.Ytandeendeoempaa.Pag Go.Proofs.Ytandeendeoempaa.PagE

def cI (x : S44) : S61 := ⟨x.f0, x.f1, x.f2, x.f3⟩
def cK (x : S60) : S62 := ⟨x.f0, x.f1⟩
theorem cI_inj {x y : S44} (h : cI x = cI y) : x = y := by
  cases x; cases y
  simp only [cI, S61.mk.injEq] at h
  simp only [S44.mk.injEq]
  exact h
theorem cK_inj {x y : S60} (h : cK x = cK y) : x = y := by
  cases x; cases y
  simp only [cK, S62.mk.injEq] at h
  simp only [S60.mk.injEq]
  exact h
theorem Of_l1 (ks : List S60) (hl : ks.length ≤ 1000) (a0 a1 a2 : Int) (is : List S61) (d i' : List Int) : ∀ (m : List S60) (i : Nat) (acc : List S62), ks.drop i = m → i ≤ ks.length → acc.length = i →
    Ev (fun k => terrierlaw04_Of.l1 k ks (ks.length : Int) i a0 a1 a2 is acc d i') (a0, a1, a2, is, acc ++ m.map cK, d, i')
  | [], i, acc, hm, hi, _ => by
    have : ks.length ≤ i := List.drop_eq_nil_iff.1 hm
    refine Ev.step (fun k => by rw [terrierlaw04_Of.l1]) ?_
    exact Ev.eq (Ev.iteF (by omega) (Ev.now _)) (by simp)
  | x :: m, i, acc, hm, hi, ha => by
    obtain ⟨h, hx, hm'⟩ := drop_cons hm
    have e : rd_T60 ks i = x := (rd_getD ks _ i h).trans hx
    refine Ev.step (fun k => by rw [terrierlaw04_Of.l1]) (Ev.iteT (by omega) (Ev.iteT (by omega) (Ev.iteT (by omega) (Ev.iteT (by omega) ?_))))
    rw [e, wrapInc (by omega)]
    exact Ev.eq (Of_l1 ks hl a0 a1 a2 is d i' m (i + 1) (acc ++ [cK x]) hm' h (by simp [ha])) (by simp)
theorem Of_l0 (p : Pg) (hl : p.items.length ≤ 1000) (hk : p.kids.length ≤ 1000) : ∀ (m : List S44) (i : Nat) (acc : List S61), p.items.drop i = m → i ≤ p.items.length → acc.length = i →
    Ev (fun k => terrierlaw04_Of.l0 k p.items (p.items.length : Int) i p.k p.t p.n p.items p.kids p.data p.ids p.k p.t p.n acc p.data p.ids) (p.k, p.t, p.n, acc ++ m.map cI, p.kids.map cK, p.data, p.ids)
  | [], i, acc, hm, hi, _ => by
    have : p.items.length ≤ i := List.drop_eq_nil_iff.1 hm
    refine Ev.step (fun k => by rw [terrierlaw04_Of.l0]) ?_
    refine Ev.iteF (by omega) ?_
    exact Ev.eq (Of_l1 p.kids hk p.k p.t p.n acc p.data p.ids p.kids 0 [] rfl (by omega) rfl) (by simp)
  | x :: m, i, acc, hm, hi, ha => by
    obtain ⟨h, hx, hm'⟩ := drop_cons hm
    have e : rd_T44 p.items i = x := (rd_getD p.items _ i h).trans hx
    refine Ev.step (fun k => by rw [terrierlaw04_Of.l0]) (Ev.iteT (by omega) (Ev.iteT (by omega) (Ev.iteT (by omega) (Ev.iteT (by omega) ?_))))
    rw [e, wrapInc (by omega)]
    exact Ev.eq (Of_l0 p hl hk m (i + 1) (acc ++ [cI x]) hm' h (by simp [ha])) (by simp)
theorem Of_ev (p : Pg) (hl : p.items.length ≤ 1000) (hk : p.kids.length ≤ 1000) : Ev (fun k => terrierlaw04_Of.f k p.k p.t p.n p.items p.kids p.data p.ids) (p.k, p.t, p.n, p.items.map cI, p.kids.map cK, p.data, p.ids) := by
  unfold terrierlaw04_Of.f
  exact Of_l0 p hl hk p.items 0 [] rfl (by omega) rfl
structure ByP (p : Pg) : Prop where
  items : ∀ x ∈ p.items, Bytes x.f0 ∧ Bytes x.f1
  kids : ∀ x ∈ p.kids, Bytes x.f0
  data : Bytes p.data
theorem rd_map61 (l : List S44) (i : Nat) (h : i < l.length) : rd_T61 (l.map cI) i = cI l[i] := (rd_getD (l.map cI) _ i (by simpa using h)).trans (by simp)
theorem rd_map62 (l : List S60) (i : Nat) (h : i < l.length) : rd_T62 (l.map cK) i = cK l[i] := (rd_getD (l.map cK) _ i (by simpa using h)).trans (by simp)
section
variable (p q : Pg)
theorem Same_l2 (hl : p.ids.length = q.ids.length) (hb : p.ids.length ≤ 1000000) : ∀ (d i : Nat), i + d = p.ids.length → ∃ b, Ev (fun k => terrierref04_Same.l2 k (p.ids.length : Int) i p.k p.t p.n (p.items.map cI) (p.kids.map cK) p.data p.ids q.k q.t q.n (q.items.map cI) (q.kids.map cK) q.data q.ids) b ∧ (b = true ↔ p.ids.drop i = q.ids.drop i)
  | 0, i, h => by
    refine ⟨true, Ev.step (fun k => by rw [terrierref04_Same.l2]) ?_, ?_⟩
    · exact Ev.iteF (by omega) (Ev.now _)
    · rw [List.drop_of_length_le (by omega), List.drop_of_length_le (by omega)]; simp
  | d + 1, i, h => by
    have h1 : i < p.ids.length := by omega
    have h2 : i < q.ids.length := by omega
    have e1 : rd p.ids i = p.ids[i] := rd_getD p.ids _ i h1
    have e2 : rd q.ids i = q.ids[i] := rd_getD q.ids _ i h2
    obtain ⟨b, hb', hiff⟩ := Same_l2 hl hb d (i + 1) (by omega)
    have ed : p.ids.drop i = q.ids.drop i ↔ p.ids[i] = q.ids[i] ∧ p.ids.drop (i + 1) = q.ids.drop (i + 1) := by
      rw [List.drop_eq_getElem_cons h1, List.drop_eq_getElem_cons h2, List.cons.injEq]
    by_cases c : p.ids[i] = q.ids[i]
    · refine ⟨b, Ev.step (fun k => by rw [terrierref04_Same.l2]) (Ev.iteT (by omega) (Ev.iteT (by omega) (Ev.iteT (by omega) (Ev.iteT (by omega) ?_)))), ?_⟩
      · rw [e1, e2, wrapInc (by omega)]
        exact Ev.iteT c hb'
      · rw [ed, hiff]
        exact ⟨fun h => ⟨c, h⟩, fun h => h.2⟩
    · refine ⟨false, Ev.step (fun k => by rw [terrierref04_Same.l2]) (Ev.iteT (by omega) (Ev.iteT (by omega) (Ev.iteT (by omega) (Ev.iteT (by omega) ?_)))), ?_⟩
      · rw [e1, e2]
        exact Ev.iteF c (Ev.now _)
      · rw [ed]
        exact ⟨fun h => (by cases h), fun h => absurd h.1 c⟩
theorem Same_l1 (hi : p.ids.length = q.ids.length) (hib : p.ids.length ≤ 1000000) (hl : p.kids.length = q.kids.length) (hb : p.kids.length ≤ 1000000) (bp : ByP p) (bq : ByP q) : ∀ (d i : Nat), i + d = p.kids.length → ∃ b, Ev (fun k => terrierref04_Same.l1 k (p.kids.map cK) ((p.kids.map cK).length : Int) i p.k p.t p.n (p.items.map cI) (p.kids.map cK) p.data p.ids q.k q.t q.n (q.items.map cI) (q.kids.map cK) q.data q.ids) b ∧ (b = true ↔ p.kids.drop i = q.kids.drop i ∧ p.ids = q.ids)
  | 0, i, h => by
    obtain ⟨b, hb', hiff⟩ := Same_l2 p q hi hib p.ids.length 0 (by omega)
    refine ⟨b, Ev.step (fun k => by rw [terrierref04_Same.l1]) ?_, ?_⟩
    · refine Ev.iteF (by rw [List.length_map]; omega) ?_
      exact hb'
    · rw [List.drop_of_length_le (by omega), List.drop_of_length_le (by omega), hiff]; simp
  | d + 1, i, h => by
    have h1 : i < p.kids.length := by omega
    have h2 : i < q.kids.length := by omega
    have e1 := rd_map62 p.kids i h1
    have e2 := rd_map62 q.kids i h2
    obtain ⟨b, hb', hiff⟩ := Same_l1 hi hib hl hb bp bq d (i + 1) (by omega)
    have ed : p.kids.drop i = q.kids.drop i ↔ p.kids[i] = q.kids[i] ∧ p.kids.drop (i + 1) = q.kids.drop (i + 1) := by
      rw [List.drop_eq_getElem_cons h1, List.drop_eq_getElem_cons h2, List.cons.injEq]
    have y1 := bp.kids _ (List.getElem_mem h1)
    have y2 := bq.kids _ (List.getElem_mem h2)
    have go : ∀ c : Bool, (c = false ↔ p.kids[i] = q.kids[i]) → ∃ b, Ev (fun k => terrierref04_Same.j4 k (p.kids.map cK) ((p.kids.map cK).length : Int) i c p.k p.t p.n (p.items.map cI) (p.kids.map cK) p.data p.ids q.k q.t q.n (q.items.map cI) (q.kids.map cK) q.data q.ids) b ∧ (b = true ↔ p.kids.drop i = q.kids.drop i ∧ p.ids = q.ids) := by
      intro c hc
      cases c with
      | true =>
        refine ⟨false, Ev.step (fun k => by rw [terrierref04_Same.j4]) (Ev.iteT rfl (Ev.now _)), ?_⟩
        rw [ed]
        exact ⟨fun h => (by cases h), fun h => absurd (hc.2 h.1.1) (by decide)⟩
      | false =>
        refine ⟨b, Ev.step (fun k => by rw [terrierref04_Same.j4]) (Ev.iteF (by decide) ?_), ?_⟩
        · rw [wrapInc (by omega)]
          exact hb'
        · rw [ed, hiff]
          exact ⟨fun h => ⟨⟨hc.1 rfl, h.1⟩, h.2⟩, fun h => ⟨h.1.2, h.2⟩⟩
    have eK : p.kids[i] = q.kids[i] ↔ (p.kids[i]).f0 = (q.kids[i]).f0 ∧ (p.kids[i]).f1 = (q.kids[i]).f1 := by
      cases p.kids[i]; cases q.kids[i]; simp
    by_cases c : (p.kids[i]).f0 = (q.kids[i]).f0
    · obtain ⟨b2, hb2, hiff2⟩ := go ((p.kids[i]).f1 != (q.kids[i]).f1) (by rw [eK]; simp [c])
      refine ⟨b2, Ev.step (fun k => by rw [terrierref04_Same.l1]) (Ev.iteT (by rw [List.length_map]; omega) (Ev.iteT (by omega) (Ev.iteT (by rw [List.length_map]; omega) (Ev.iteT (by rw [List.length_map]; omega) ?_)))), hiff2⟩
      rw [e1, e2]
      refine Ev.bind0 ((Same_eq (l := (cK p.kids[i]).f0) (m := (cK q.kids[i]).f0) y1 y2).trans (congrArg some (decide_eq_true c))) (Ev.iteT rfl ?_)
      exact hb2
    · obtain ⟨b2, hb2, hiff2⟩ := go true (by rw [eK]; simp [c])
      refine ⟨b2, Ev.step (fun k => by rw [terrierref04_Same.l1]) (Ev.iteT (by rw [List.length_map]; omega) (Ev.iteT (by omega) (Ev.iteT (by rw [List.length_map]; omega) (Ev.iteT (by rw [List.length_map]; omega) ?_)))), hiff2⟩
      rw [e1, e2]
      refine Ev.bind0 ((Same_eq (l := (cK p.kids[i]).f0) (m := (cK q.kids[i]).f0) y1 y2).trans (congrArg some (decide_eq_false c))) (Ev.iteF (by decide) ?_)
      exact hb2
theorem Same_l0 (hi : p.ids.length = q.ids.length) (hib : p.ids.length ≤ 1000000) (hk : p.kids.length = q.kids.length) (hkb : p.kids.length ≤ 1000000) (hl : p.items.length = q.items.length) (hb : p.items.length ≤ 1000000) (bp : ByP p) (bq : ByP q) : ∀ (d i : Nat), i + d = p.items.length → ∃ b, Ev (fun k => terrierref04_Same.l0 k (p.items.map cI) ((p.items.map cI).length : Int) i p.k p.t p.n (p.items.map cI) (p.kids.map cK) p.data p.ids q.k q.t q.n (q.items.map cI) (q.kids.map cK) q.data q.ids) b ∧ (b = true ↔ p.items.drop i = q.items.drop i ∧ (p.kids = q.kids ∧ p.ids = q.ids))
  | 0, i, h => by
    obtain ⟨b, hb', hiff⟩ := Same_l1 p q hi hib hk hkb bp bq p.kids.length 0 (by omega)
    refine ⟨b, Ev.step (fun k => by rw [terrierref04_Same.l0]) ?_, ?_⟩
    · refine Ev.iteF (by rw [List.length_map]; omega) ?_
      exact hb'
    · rw [List.drop_of_length_le (by omega), List.drop_of_length_le (by omega), hiff]; simp
  | d + 1, i, h => by
    have h1 : i < p.items.length := by omega
    have h2 : i < q.items.length := by omega
    have e1 := rd_map61 p.items i h1
    have e2 := rd_map61 q.items i h2
    obtain ⟨b, hb', hiff⟩ := Same_l0 hi hib hk hkb hl hb bp bq d (i + 1) (by omega)
    have ed : p.items.drop i = q.items.drop i ↔ p.items[i] = q.items[i] ∧ p.items.drop (i + 1) = q.items.drop (i + 1) := by
      rw [List.drop_eq_getElem_cons h1, List.drop_eq_getElem_cons h2, List.cons.injEq]
    have y1 := bp.items _ (List.getElem_mem h1)
    have y2 := bq.items _ (List.getElem_mem h2)
    have go : ∀ c : Bool, (c = false ↔ p.items[i] = q.items[i]) → ∃ b, Ev (fun k => terrierref04_Same.j2 k (p.items.map cI) ((p.items.map cI).length : Int) i c p.k p.t p.n (p.items.map cI) (p.kids.map cK) p.data p.ids q.k q.t q.n (q.items.map cI) (q.kids.map cK) q.data q.ids) b ∧ (b = true ↔ p.items.drop i = q.items.drop i ∧ (p.kids = q.kids ∧ p.ids = q.ids)) := by
      intro c hc
      cases c with
      | true =>
        refine ⟨false, Ev.step (fun k => by rw [terrierref04_Same.j2]) (Ev.iteT rfl (Ev.now _)), ?_⟩
        rw [ed]
        exact ⟨fun h => (by cases h), fun h => absurd (hc.2 h.1.1) (by decide)⟩
      | false =>
        refine ⟨b, Ev.step (fun k => by rw [terrierref04_Same.j2]) (Ev.iteF (by decide) ?_), ?_⟩
        · rw [wrapInc (by omega)]
          exact hb'
        · rw [ed, hiff]
          exact ⟨fun h => ⟨⟨hc.1 rfl, h.1⟩, h.2⟩, fun h => ⟨h.1.2, h.2⟩⟩
    have eK : p.items[i] = q.items[i] ↔ (p.items[i]).f0 = (q.items[i]).f0 ∧ (p.items[i]).f1 = (q.items[i]).f1 ∧ (p.items[i]).f2 = (q.items[i]).f2 ∧ (p.items[i]).f3 = (q.items[i]).f3 := by
      cases p.items[i]; cases q.items[i]; simp
    have s0 := Same_eq (l := (cI p.items[i]).f0) (m := (cI q.items[i]).f0) y1.1 y2.1
    have s1 := Same_eq (l := (cI p.items[i]).f1) (m := (cI q.items[i]).f1) y1.2 y2.2
    have wrapU : ∀ b, Ev (fun k => (terrierref01_Same.f (cI p.items[i]).f0 (cI q.items[i]).f0).bind fun t256 => (if t256 = true then ((terrierref01_Same.f (cI p.items[i]).f1 (cI q.items[i]).f1).bind fun t257 => (if t257 = true then (if (cI p.items[i]).f2 = (cI q.items[i]).f2 then (terrierref04_Same.j2 k (p.items.map cI) ((p.items.map cI).length : Int) i ((cI p.items[i]).f3 != (cI q.items[i]).f3) p.k p.t p.n (p.items.map cI) (p.kids.map cK) p.data p.ids q.k q.t q.n (q.items.map cI) (q.kids.map cK) q.data q.ids) else (terrierref04_Same.j2 k (p.items.map cI) ((p.items.map cI).length : Int) i true p.k p.t p.n (p.items.map cI) (p.kids.map cK) p.data p.ids q.k q.t q.n (q.items.map cI) (q.kids.map cK) q.data q.ids)) else (terrierref04_Same.j2 k (p.items.map cI) ((p.items.map cI).length : Int) i true p.k p.t p.n (p.items.map cI) (p.kids.map cK) p.data p.ids q.k q.t q.n (q.items.map cI) (q.kids.map cK) q.data q.ids))) else (terrierref04_Same.j2 k (p.items.map cI) ((p.items.map cI).length : Int) i true p.k p.t p.n (p.items.map cI) (p.kids.map cK) p.data p.ids q.k q.t q.n (q.items.map cI) (q.kids.map cK) q.data q.ids))) b →
        Ev (fun k => terrierref04_Same.l0 k (p.items.map cI) ((p.items.map cI).length : Int) i p.k p.t p.n (p.items.map cI) (p.kids.map cK) p.data p.ids q.k q.t q.n (q.items.map cI) (q.kids.map cK) q.data q.ids) b := by
      intro b hb
      refine Ev.step (fun k => by rw [terrierref04_Same.l0]) (Ev.iteT (by rw [List.length_map]; omega) (Ev.iteT (by omega) (Ev.iteT (by rw [List.length_map]; omega) (Ev.iteT (by rw [List.length_map]; omega) ?_))))
      rw [e1, e2]
      exact hb
    by_cases c : (p.items[i]).f0 = (q.items[i]).f0
    case neg =>
      obtain ⟨b2, hb2, hiff2⟩ := go true (by rw [eK]; simp [c])
      exact ⟨b2, wrapU _ (Ev.bind0 (s0.trans (congrArg some (decide_eq_false c))) (Ev.iteF (by decide) hb2)), hiff2⟩
    by_cases c1 : (p.items[i]).f1 = (q.items[i]).f1
    case neg =>
      obtain ⟨b2, hb2, hiff2⟩ := go true (by rw [eK]; simp [c1])
      exact ⟨b2, wrapU _ (Ev.bind0 (s0.trans (congrArg some (decide_eq_true c))) (Ev.iteT rfl (Ev.bind0 (s1.trans (congrArg some (decide_eq_false c1))) (Ev.iteF (by decide) hb2)))), hiff2⟩
    by_cases c2 : (p.items[i]).f2 = (q.items[i]).f2
    case neg =>
      obtain ⟨b2, hb2, hiff2⟩ := go true (by rw [eK]; simp [c2])
      exact ⟨b2, wrapU _ (Ev.bind0 (s0.trans (congrArg some (decide_eq_true c))) (Ev.iteT rfl (Ev.bind0 (s1.trans (congrArg some (decide_eq_true c1))) (Ev.iteT rfl (Ev.iteF c2 hb2))))), hiff2⟩
    obtain ⟨b2, hb2, hiff2⟩ := go ((p.items[i]).f3 != (q.items[i]).f3) (by rw [eK]; simp [c, c1, c2])
    exact ⟨b2, wrapU _ (Ev.bind0 (s0.trans (congrArg some (decide_eq_true c))) (Ev.iteT rfl (Ev.bind0 (s1.trans (congrArg some (decide_eq_true c1))) (Ev.iteT rfl (Ev.iteT c2 hb2))))), hiff2⟩
theorem pg_eq : p = q ↔ p.k = q.k ∧ p.t = q.t ∧ p.n = q.n ∧ p.items = q.items ∧ p.kids = q.kids ∧ p.data = q.data ∧ p.ids = q.ids := by
  cases p; cases q; simp
theorem Same_ev (hib : p.ids.length ≤ 1000000) (hkb : p.kids.length ≤ 1000000) (hb : p.items.length ≤ 1000000) (bp : ByP p) (bq : ByP q) : ∃ b, Ev (fun k => terrierref04_Same.f k p.k p.t p.n (p.items.map cI) (p.kids.map cK) p.data p.ids q.k q.t q.n (q.items.map cI) (q.kids.map cK) q.data q.ids) b ∧ (b = true ↔ p = q) := by
  have jt : Ev (fun k => terrierref04_Same.j0 k true p.k p.t p.n (p.items.map cI) (p.kids.map cK) p.data p.ids q.k q.t q.n (q.items.map cI) (q.kids.map cK) q.data q.ids) false := Ev.step (fun k => by rw [terrierref04_Same.j0]) (Ev.iteT rfl (Ev.now _))
  have no : p ≠ q → (false = true ↔ p = q) := fun h => ⟨fun h => (by cases h), fun h2 => absurd h2 h⟩
  unfold terrierref04_Same.f
  by_cases c1 : p.k = q.k
  case neg => exact ⟨false, Ev.iteF c1 jt, no fun h => c1 (by rw [h])⟩
  by_cases c2 : p.t = q.t
  case neg => exact ⟨false, Ev.iteT c1 (Ev.iteF c2 jt), no fun h => c2 (by rw [h])⟩
  by_cases c3 : p.n = q.n
  case neg => exact ⟨false, Ev.iteT c1 (Ev.iteT c2 (Ev.iteF c3 jt)), no fun h => c3 (by rw [h])⟩
  by_cases c4 : p.items.length = q.items.length
  case neg => exact ⟨false, Ev.iteT c1 (Ev.iteT c2 (Ev.iteT c3 (Ev.iteF (by simp only [List.length_map]; omega) jt))), no fun h => c4 (by rw [h])⟩
  by_cases c5 : p.kids.length = q.kids.length
  case neg => exact ⟨false, Ev.iteT c1 (Ev.iteT c2 (Ev.iteT c3 (Ev.iteT (by simp only [List.length_map]; omega) (Ev.iteF (by simp only [List.length_map]; omega) jt)))), no fun h => c5 (by rw [h])⟩
  by_cases c6 : p.ids.length = q.ids.length
  case neg => exact ⟨false, Ev.iteT c1 (Ev.iteT c2 (Ev.iteT c3 (Ev.iteT (by simp only [List.length_map]; omega) (Ev.iteT (by simp only [List.length_map]; omega) (Ev.iteF (by omega) jt))))), no fun h => c6 (by rw [h])⟩
  have s := Same_eq bp.data bq.data
  by_cases c7 : p.data = q.data
  case neg => exact ⟨false, Ev.iteT c1 (Ev.iteT c2 (Ev.iteT c3 (Ev.iteT (by simp only [List.length_map]; omega) (Ev.iteT (by simp only [List.length_map]; omega) (Ev.iteT (by omega) (Ev.bind0 (s.trans (congrArg some (decide_eq_false c7))) jt)))))), no fun h => c7 (by rw [h])⟩
  obtain ⟨b, hb', hiff⟩ := Same_l0 p q c6 hib c5 hkb c4 hb bp bq p.items.length 0 (by omega)
  refine ⟨b, Ev.iteT c1 (Ev.iteT c2 (Ev.iteT c3 (Ev.iteT (by simp only [List.length_map]; omega) (Ev.iteT (by simp only [List.length_map]; omega) (Ev.iteT (by omega) (Ev.bind0 (s.trans (congrArg some (decide_eq_true c7))) ?_)))))), ?_⟩
  · refine Ev.step (fun k => by rw [terrierref04_Same.j0]) ?_
    refine Ev.iteF (by decide) ?_
    exact hb'
  · rw [hiff, pg_eq]
    simp [c1, c2, c3, c7]
end
end Go.Proofs.Ytandeendeoempaa.PagS
