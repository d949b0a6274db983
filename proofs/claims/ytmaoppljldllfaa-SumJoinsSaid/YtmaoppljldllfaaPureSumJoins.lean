/- A checksum is that of the whole, wherever it is cut: the plain statement that is left of the law SumJoins, for any bytes and any place. -/
import Derived.Test.YtmaoppljldllfaaOctSumJoins
import Derived.Test.YtmaoppljldllfaaCrcSumJoins
import Derived.Test.YtmaoppljldllfaaSumSumJoins
import Derived.Test.YtmaoppljldllfaaPJx3
namespace Go.Proofs.Ytmaoppljldllfaa.Pure
open Go.RowKit Go.Proofs.YtmaoppljldllfaaW.PrintWords Go.Proofs.YtmaoppljldllfaaW.PrintLast Go.Proofs.YtmaoppljldllfaaW.PrintMore Go.Proofs.Ytmaoppljldllfaa.PJ Go.Proofs.Ytmaoppljldllfaa.Base Go.Proofs.Ytmaoppljldllfaa.Oct Go.Proofs.Ytmaoppljldllfaa.Crc Go.Proofs.Ytmaoppljldllfaa.Sum
theorem SumJoins : terrierlaw02_SumJoins.Pure := by
  intro l a hB ha
  have hb : Bytes l := bytes_of_wf hB.1
  have hl2 := hB.2.1
  refine Ev.rounds ?_
  unfold terrierlaw02_SumJoins.f
  refine Ev.bind lives_ev (Ev.iteT rfl ?_)
  by_cases c : (l.length : Int) > 4096
  · rw [decide_eq_true c]
    exact Ev.step (fun k => by rw [terrierlaw02_SumJoins.j0]) (Ev.iteT rfl (Ev.bind lives_ev (Ev.now _)))
  rw [decide_eq_false c]
  refine Ev.step (fun k => by rw [terrierlaw02_SumJoins.j0]) (Ev.iteF (by decide) (Ev.step (fun k => by rw [terrierlaw02_SumJoins.j1]) ?_))
  have w1 : IntKind.u64.wrap (wrap64 ((l.length : Int) + 1)) = (l.length : Int) + 1 := by rw [wrap64_id (by omega) (by omega), wrap_u64_id (by omega) (by omega)]
  have hu : 0 ≤ IntKind.u64.wrap a := by rw [wrap_u64]; omega
  rw [w1]
  have w2 : wrap64 (Int.tmod (IntKind.u64.wrap a) ((l.length : Int) + 1)) = IntKind.u64.wrap a % ((l.length : Int) + 1) := by
    rw [Int.tmod_eq_emod_of_nonneg hu]
    have h1 := Int.emod_nonneg (IntKind.u64.wrap a) (show ((l.length : Int) + 1) ≠ 0 by omega)
    have h2 := Int.emod_lt_of_pos (IntKind.u64.wrap a) (show (0 : Int) < (l.length : Int) + 1 by omega)
    exact wrap64_id (by omega) (by omega)
  have h1 := Int.emod_nonneg (IntKind.u64.wrap a) (show ((l.length : Int) + 1) ≠ 0 by omega)
  have h2 := Int.emod_lt_of_pos (IntKind.u64.wrap a) (show (0 : Int) < (l.length : Int) + 1 by omega)
  rw [w2]
  generalize IntKind.u64.wrap a % ((l.length : Int) + 1) = n at *
  have ht : Bytes (l.take n.toNat) := bytes_take hb _
  have hd : Bytes (l.drop n.toNat) := bytes_drop hb _
  have hlt : (l.take n.toNat).length ≤ 140737488351232 := by simp; omega
  have hld : (l.drop n.toNat).length ≤ 140737488351232 := by simp; omega
  have e1 := Sum_one l hb (by omega)
  have sum_of : ∀ ls : List (List Int), (∀ x ∈ ls, x = [] ∨ x = l ∨ x = l.take n.toNat ∨ x = l.drop n.toNat) → ls.length ≤ 10 → ls.flatten = l → Ev (fun k => sum_Sum.f k ls) ((sumN l : Nat) : Int) := by
    intro ls hls hn hf
    have h := Sum_ev ls (fun x hx => by
      rcases hls x hx with rfl | rfl | rfl | rfl
      · exact bytes_nil
      · exact hb
      · exact ht
      · exact hd) (fun x hx => by
      rcases hls x hx with rfl | rfl | rfl | rfl
      · simp
      · omega
      · exact hlt
      · exact hld) (by omega)
    rwa [hf] at h
  refine Ev.iteF (by omega) (Ev.iteT h1 (Ev.iteT (by omega) (Ev.bind0 rfl (Ev.bind0 rfl ?_))))
  refine Ev.bind (sum_of _ (by simp) (by simp) (by simp)) (Ev.bind e1 (Ev.iteT rfl ?_))
  refine Ev.bind (sum_of _ (by simp) (by simp) (by simp)) (Ev.bind e1 (Ev.iteT rfl ?_))
  refine Ev.bind (sum_of _ (by simp) (by simp) (by simp)) (Ev.bind e1 ?_)
  rw [beq_self_eq_true]
  exact Ev.now _
end Go.Proofs.Ytmaoppljldllfaa.Pure
