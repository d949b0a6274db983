/- The sum of any parts is the document's of all of them in a row: the plain statement that is left of the law SumSums, for all parts. -/
import Derived.Test.YtmaoppljldllfaaOct
import Derived.Test.YtmaoppljldllfaaCrc
import Derived.Test.YtmaoppljldllfaaSum
import Derived.Test.YtmaoppljldllfaaPSx5
namespace Go.Proofs.Ytmaoppljldllfaa.Pure
open Go.RowKit Go.Proofs.YtmaoppljldllfaaW.PrintWords Go.Proofs.YtmaoppljldllfaaW.PrintLast Go.Proofs.YtmaoppljldllfaaW.PrintMore Go.Proofs.Ytmaoppljldllfaa.PS Go.Proofs.Ytmaoppljldllfaa.Base Go.Proofs.Ytmaoppljldllfaa.Oct Go.Proofs.Ytmaoppljldllfaa.Crc Go.Proofs.Ytmaoppljldllfaa.Sum
theorem parts_loop (l0 : List (List Int)) (hb : ∀ l ∈ l0, Bytes l) (hl : ∀ l ∈ l0, l.length ≤ 140737488351232) (hn : l0.length ≤ 100) : ∀ (d j : Nat) (acc : List Int), j + d = l0.length → acc = (l0.take j).flatten → acc.length ≤ 8192 →
    Ev (fun k => terrierlaw02_SumSums.l0 k l0 acc l0 (l0.length : Int) j) true
  | 0, j, acc, hj, ha, hal => by
    refine Ev.step (fun k => by rw [terrierlaw02_SumSums.l0]) (Ev.iteF (by omega) ?_)
    rw [List.take_of_length_le (by omega)] at ha
    have hbf : Bytes l0.flatten := fun x hx => by
      obtain ⟨l, h1, h2⟩ := List.mem_flatten.1 hx
      exact hb l h1 x h2
    refine Ev.bind (Sum_ev l0 hb hl (by omega)) (Ev.bind (refSum_ev acc (by rw [ha]; exact hbf) (by omega)) ?_)
    rw [ha]
    simpa using Ev.now _
  | d + 1, j, acc, hj, ha, hal => by
    have hd := row_drop (ls := l0) (j := j) (by omega)
    refine Ev.step (fun k => by rw [terrierlaw02_SumSums.l0]) (Ev.iteT (by omega) (Ev.iteT (by omega) (Ev.iteT (by omega) ?_)))
    by_cases c1 : ((rd_L1 l0 j).length : Int) > 4096
    · exact Ev.iteT c1 (Ev.now _)
    refine Ev.iteF c1 ?_
    by_cases c2 : (acc.length : Int) > 4096
    · exact Ev.iteT c2 (Ev.now _)
    refine Ev.iteF c2 (Ev.iteT (by omega) ?_)
    rw [wrapInc (by omega)]
    refine parts_loop l0 hb hl hn d (j + 1) _ (by omega) ?_ (by simp; omega)
    have hj' : j < l0.length := by omega
    have e : l0.take (j + 1) = l0.take j ++ [rd_L1 l0 j] := by
      rw [List.take_succ_eq_append_getElem hj']
      simp [rd_L1, hj']
    rw [e, ha, List.flatten_append]
    simp
theorem SumSums : terrierlaw02_SumSums.Pure := by
  intro l0 hk
  have hb : ∀ l ∈ l0, Bytes l := fun l hl => bytes_of_wf (hk.1 l hl).1
  have hl : ∀ l ∈ l0, l.length ≤ 140737488351232 := fun l hl => by have := (hk.1 l hl).2.1; omega
  refine Ev.rounds ?_
  unfold terrierlaw02_SumSums.f
  refine Ev.bind lives_ev (Ev.iteT rfl ?_)
  by_cases c : (l0.length : Int) > 100
  · rw [decide_eq_true c]
    refine Ev.step (fun k => by rw [terrierlaw02_SumSums.j0]) (Ev.iteT rfl (Ev.bind lives_ev (Ev.now _)))
  · rw [decide_eq_false c]
    refine Ev.step (fun k => by rw [terrierlaw02_SumSums.j0]) (Ev.iteF (by decide) ?_)
    exact parts_loop l0 hb hl (by omega) l0.length 0 [] (by omega) rfl (by simp)
end Go.Proofs.Ytmaoppljldllfaa.Pure
