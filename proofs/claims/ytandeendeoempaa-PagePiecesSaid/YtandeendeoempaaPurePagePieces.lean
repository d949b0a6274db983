/- Any bytes that a page has room for come back as a Piece; of none, or more, there is no page: the plain statement that is left of the law PagePieces, for every row of bytes and every two numbers. -/
import Derived.Test.YtandeendeoempaaPagDPagePieces
import Derived.Test.YtandeendeoempaaPMx11
import Derived.Test.YtandeendeoempaaPMx15
import Derived.Test.YtandeendeoempaaPMx8
set_option linter.unusedSimpArgs false
namespace Go.Proofs.Ytandeendeoempaa.Pure
open Go.RowKit Go.Proofs.YtandeendeoempaaW.PrintWords Go.Proofs.YtandeendeoempaaW.PrintLast Go.Proofs.YtandeendeoempaaW.PrintMore Go.Proofs.Ytandeendeoempaa.PM Go.Proofs.Ytandeendeoempaa.Base Go.Proofs.Ytandeendeoempaa.Oct Go.Proofs.Ytandeendeoempaa.Crc Go.Proofs.Ytandeendeoempaa.Sum Go.Proofs.Ytandeendeoempaa.Pag Go.Proofs.Ytandeendeoempaa.PagE Go.Proofs.Ytandeendeoempaa.PagD

def pc (t n : Int) (l : List Int) : Pg := ⟨3, t, n, [], [], l, []⟩
theorem right_pc (t n : Int) (l : List Int) (h0 : 0 ≤ n) (h1 : n < 1024) : rightB (pc t n l) = (decide (1 ≤ l.length) && decide (l.length ≤ 237)) := by
  have e : thingsE (pc t n l) = ((l.length : Int), true) := by
    unfold thingsE pc page_things.g
    simp
  have hh : headB (pc t n l) = (decide (1 ≤ l.length) && decide (l.length ≤ 237)) := by
    unfold headB
    rw [e]
    rw [Bool.eq_iff_iff]
    simp [pc, h0, h1]
    omega
  unfold rightB
  rw [hh, Bool.eq_iff_iff]
  simp [pc, itemsB, kidsB, idsB, chk, usedN]
theorem PagePieces : terrierlaw04_PagePieces.Pure := by
  intro l a1 a2 _ _ hw h1 h2
  have hb := bytes_of_wf hw
  have u1 := wf_u64.1 h1
  have i2 := wf_i64.1 h2
  suffices h : Ev (fun k => terrierlaw04_PagePieces.f k l a1 a2) true from h.rounds
  unfold terrierlaw04_PagePieces.f
  refine Ev.bind lives_ev (Ev.iteT rfl ?_)
  by_cases c : (l.length : Int) > 1000
  · rw [decide_eq_true c]
    refine Ev.step (fun k => by rw [terrierlaw04_PagePieces.j0]) (Ev.iteT rfl (Ev.bind lives_ev (Ev.now _)))
  rw [decide_eq_false c]
  refine Ev.step (fun k => by rw [terrierlaw04_PagePieces.j0]) (Ev.iteF (by decide) ?_)
  have u0 : 0 ≤ IntKind.u64.wrap a2 := by rw [wrap_u64]; omega
  have m0 := Int.emod_nonneg (IntKind.u64.wrap a2) (show (1024 : Int) ≠ 0 by omega)
  have m1 := Int.emod_lt_of_pos (IntKind.u64.wrap a2) (show (0 : Int) < 1024 by omega)
  rw [Int.tmod_eq_emod_of_nonneg u0]
  generalize IntKind.u64.wrap a2 % 1024 = m at *
  rw [wrap64_id (n := m) (by omega) (by omega)]
  have ok : OkP (pc a1 m l) := ⟨⟨u1.1, by have := u1.2; show a1 < _; omega⟩, by simp [pc], by simp [pc], hb, by simp [pc, usedN]; omega⟩
  have hr := right_pc a1 m l m0 m1
  refine Ev.bind (Encode_ev (pc a1 m l) ok) ?_
  have no (h : rightB (pc a1 m l) = false) : Ev (fun k => terrierlaw04_PagePieces.j1 k l a1 m (encE (pc a1 m l)).1 (encE (pc a1 m l)).2 true) true := by
    have e : encE (pc a1 m l) = ([], 4) := by unfold encE; rw [h]; rfl
    rw [e]
    exact Ev.step (fun k => by rw [terrierlaw04_PagePieces.j1]) (Ev.iteT rfl (Ev.iteT rfl (Ev.eq (Ev.now _) (by simp))))
  by_cases d1 : (l.length : Int) < 1
  · exact Ev.iteT d1 (no (by rw [hr, decide_eq_false (by omega)]; rfl))
  refine Ev.iteF d1 ?_
  by_cases d2 : (l.length : Int) > 237
  · rw [decide_eq_true d2]
    exact no (by rw [hr, decide_eq_false (show ¬ l.length ≤ 237 by omega), Bool.and_false])
  rw [decide_eq_false d2]
  have yes : rightB (pc a1 m l) = true := by rw [hr, decide_eq_true (show 1 ≤ l.length by omega), decide_eq_true (show l.length ≤ 237 by omega)]; rfl
  have e : encE (pc a1 m l) = (sealB (pad (bodyY (pc a1 m l))), 0) := if_pos yes
  rw [e]
  refine Ev.step (fun k => by rw [terrierlaw04_PagePieces.j1]) (Ev.iteF (by decide) ?_)
  refine Ev.bind (Decode_ev (pc a1 m l) ok yes) ?_
  exact Ev.iteT rfl (Ev.iteT rfl (Ev.iteT rfl (Ev.iteT rfl (Ev.iteT rfl (Ev.bind0 (Same_self l) (Ev.now _))))))
end Go.Proofs.Ytandeendeoempaa.Pure
