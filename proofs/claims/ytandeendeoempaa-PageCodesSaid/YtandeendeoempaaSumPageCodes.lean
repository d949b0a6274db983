/- What the functions of package sum, and the document's for its layer, compute: the sum of bytes of text Crc. -/
import Derived.Test.YtandeendeoempaaOctPageCodes
import Derived.Test.YtandeendeoempaaCrcPageCodes
import Derived.Test.YtandeendeoempaaPCx15
import Derived.Test.YtandeendeoempaaPCx6
namespace Go.Proofs.Ytandeendeoempaa.Sum
open Go.RowKit Go.Proofs.YtandeendeoempaaW.PrintWords Go.Proofs.YtandeendeoempaaW.PrintLast Go.Proofs.YtandeendeoempaaW.PrintMore Go.Proofs.Ytandeendeoempaa.PC Go.Proofs.Ytandeendeoempaa.Base Go.Proofs.Ytandeendeoempaa.Oct Go.Proofs.Ytandeendeoempaa.Crc
theorem halfS_eq (r x i c : Nat) (xi ii : Int) (hxi : xi = (x : Int)) (hii : ii = (i : Int)) (hr : r < 16) (hx : x < 2 ^ 32) (hc : c < 2 ^ 32) : halfS r xi ii c = ((c ^^^ (if r / 2 ^ i % 2 = 1 then x else 0) : Nat) : Int) := by
  subst hxi; subst hii
  unfold halfS
  have hp : 0 < 2 ^ i := Nat.pow_pos (by decide)
  have hd : r / 2 ^ i < 2 ^ 32 := Nat.lt_of_le_of_lt (Nat.div_le_self _ _) (by omega)
  have e : ((r : Int) / 2 ^ ((i : Int)).toNat) = ((r / 2 ^ i : Nat) : Int) := by simp
  rw [e, and1 _ hd]
  by_cases c1 : r / 2 ^ i % 2 = 1
  · rw [c1, if_pos rfl, if_pos (by decide), xor32 c x hc hx]
  · have c0 : r / 2 ^ i % 2 = 0 := by omega
    rw [c0, if_neg (by decide), if_neg (by decide), Nat.xor_zero]
theorem pick_lt (p : Prop) [Decidable p] (x : Nat) (h : x < 2 ^ 32) : (if p then x else 0) < 2 ^ 32 := by split <;> omega
theorem half_eq (c : Nat) (h : c < 2 ^ 32) : sum_half.f (c : Int) = some ((steps 4 c : Nat) : Int) := by
  have hr : c % 16 < 16 := Nat.mod_lt _ (by decide)
  have hq : c / 16 < 2 ^ 32 := by omega
  have e0 : c = 2 ^ 4 * (c / 16) ^^^ c % 16 := by
    rw [xor_low 4 _ _ hr]; omega
  have e1 : steps 4 c = c / 16 ^^^ tab (c % 16) := by
    conv => lhs; rw [e0]
    rw [steps_xor, steps_shift, steps4_low _ hr]
  have a1 : c / 16 ^^^ (if c % 16 / 2 ^ 0 % 2 = 1 then 274646895 else 0) < 2 ^ 32 := Nat.xor_lt_two_pow hq (pick_lt _ _ (by decide))
  have a2 : c / 16 ^^^ (if c % 16 / 2 ^ 0 % 2 = 1 then 274646895 else 0) ^^^ (if c % 16 / 2 ^ 1 % 2 = 1 then 549293790 else 0) < 2 ^ 32 := Nat.xor_lt_two_pow a1 (pick_lt _ _ (by decide))
  have a3 : c / 16 ^^^ (if c % 16 / 2 ^ 0 % 2 = 1 then 274646895 else 0) ^^^ (if c % 16 / 2 ^ 1 % 2 = 1 then 549293790 else 0) ^^^ (if c % 16 / 2 ^ 2 % 2 = 1 then 1098587580 else 0) < 2 ^ 32 := Nat.xor_lt_two_pow a2 (pick_lt _ _ (by decide))
  have b1 := halfS_eq (c % 16) 274646895 0 (c / 16) 274646895 0 rfl rfl hr (by decide) hq
  have b2 := halfS_eq (c % 16) 549293790 1 _ 549293790 1 rfl rfl hr (by decide) a1
  have b3 := halfS_eq (c % 16) 1098587580 2 _ 1098587580 2 rfl rfl hr (by decide) a2
  have b4 := halfS_eq (c % 16) 2197175160 3 _ 2197175160 3 rfl rfl hr (by decide) a3
  unfold sum_half.f halfN
  rw [e1]
  simp only [show ¬ (4 : Int) = 0 from by decide, show ¬ (4 : Int) = 1 from by decide, show ¬ (4 : Int) = 2 from by decide, show ¬ (4 : Int) = 3 from by decide, if_false]
  rw [and15 c h, show ((c : Int) / 16) = ((c / 16 : Nat) : Int) from by simp]
  rw [b1, b2, b3, b4]
  congr 2
  unfold tab
  simp only [Nat.xor_assoc, Nat.pow_zero, Nat.div_one, Nat.pow_one, show (2 : Nat) ^ 2 = 4 from rfl, show (2 : Nat) ^ 3 = 8 from rfl]
theorem half2_eq (c : Nat) (_h : c < 2 ^ 32) : steps 4 (steps 4 c) = steps 8 c := (steps_add 4 4 c).symm
theorem row_drop {ls : List (List Int)} {j : Nat} (h : j < ls.length) : ls.drop j = rd_L1 ls j :: ls.drop (j + 1) := by
  rw [List.drop_eq_getElem_cons h]
  simp [rd_L1, h]
theorem Sum_inner (ls : List (List Int)) (n j : Int) (row : List Int) (hb : Bytes row) (hl : row.length ≤ 140737488351232) {v : Int} : ∀ (d i c : Nat), i + d = row.length → c < 2 ^ 32 →
    Ev (fun k => sum_Sum.l0 k (crc c (row.drop i) : Nat) ls n (wrap64 (j + 1))) v → Ev (fun k => sum_Sum.l1 k (c : Int) ls n j row (row.length : Int) i) v
  | 0, i, c, hi, _, h => by
    refine Ev.step (fun k => by rw [sum_Sum.l1]) (Ev.iteF (by omega) ?_)
    rw [List.drop_eq_nil_of_le (by omega), crc_nil] at h
    exact h
  | d + 1, i, c, hi, hc, h => by
    have hx := rd_byte hb i
    obtain ⟨x, hxe⟩ : ∃ x : Nat, rd row i = (x : Int) := ⟨(rd row i).toNat, by omega⟩
    have hx32 : x < 2 ^ 32 := by omega
    have e1 : (rd row i) % 4294967296 = (x : Int) := by omega
    have hcx := Nat.xor_lt_two_pow hc hx32
    refine Ev.step (fun k => by rw [sum_Sum.l1]) (Ev.iteT (by omega) (Ev.iteT (by omega) (Ev.iteT (by omega) ?_)))
    rw [e1, xor32 c x hc hx32]
    refine Ev.bind0 (half_eq _ hcx) (Ev.bind0 (half_eq _ (steps_lt 4 hcx)) ?_)
    rw [wrapInc (by omega), half2_eq _ hcx]
    refine Sum_inner ls n j row hb hl d (i + 1) _ (by omega) (steps_lt 8 hcx) ?_
    rw [rd_drop (by omega), crc_cons, hxe, Int.toNat_natCast] at h
    exact h
theorem Sum_outer (ls : List (List Int)) (hb : ∀ l ∈ ls, Bytes l) (hl : ∀ l ∈ ls, l.length ≤ 140737488351232) (hn : ls.length ≤ 140737488351232) : ∀ (d j c : Nat), j + d = ls.length → c < 2 ^ 32 →
    Ev (fun k => sum_Sum.l0 k (c : Int) ls (ls.length : Int) j) ((crc c (ls.drop j).flatten ^^^ 4294967295 : Nat) : Int)
  | 0, j, c, hj, hc => by
    refine Ev.step (fun k => by rw [sum_Sum.l0]) (Ev.iteF (by omega) ?_)
    rw [List.drop_eq_nil_of_le (by omega), List.flatten_nil, crc_nil, show (4294967295 : Int) = ((4294967295 : Nat) : Int) from rfl, xor32 _ _ (by decide) hc, Nat.xor_comm]
    exact Ev.now _
  | d + 1, j, c, hj, hc => by
    have hd := row_drop (ls := ls) (j := j) (by omega)
    have hm : rd_L1 ls j ∈ ls := by
      have h2 : rd_L1 ls j ∈ ls.drop j := by rw [hd]; exact List.mem_cons_self
      exact List.mem_of_mem_drop h2
    refine Ev.step (fun k => by rw [sum_Sum.l0]) (Ev.iteT (by omega) (Ev.iteT (by omega) (Ev.iteT (by omega) ?_)))
    refine Sum_inner ls _ j (rd_L1 ls j) (hb _ hm) (hl _ hm) (rd_L1 ls j).length 0 c (by omega) hc ?_
    rw [wrapInc (by omega), List.drop_zero]
    refine Ev.eq (Sum_outer ls hb hl hn d (j + 1) _ (by omega) (crc_lt _ _ (hb _ hm) hc)) ?_
    rw [hd, List.flatten_cons, crc_append]
theorem Sum_ev (ls : List (List Int)) (hb : ∀ l ∈ ls, Bytes l) (hl : ∀ l ∈ ls, l.length ≤ 140737488351232) (hn : ls.length ≤ 140737488351232) : Ev (fun k => sum_Sum.f k ls) ((sumN ls.flatten : Nat) : Int) := by
  have := Sum_outer ls hb hl hn ls.length 0 4294967295 (by omega) (by decide)
  rw [List.drop_zero] at this
  exact this
theorem Sum_one (l : List Int) (hb : Bytes l) (hl : l.length ≤ 140737488351232) : Ev (fun k => sum_Sum.f k [l]) ((sumN l : Nat) : Int) := by
  have := Sum_ev [l] (by simpa using hb) (by simpa using hl) (by simp)
  simpa using this
theorem refSum_inner (l : List Int) (n j : Int) {v : Int} : ∀ (d i c : Nat), i + d = 8 → c < 2 ^ 32 → Ev (fun k => terrierref02_Sum.l0 k (steps d c : Nat) l n (wrap64 (j + 1))) v → Ev (fun k => terrierref02_Sum.l1 k (c : Int) i l n j) v
  | 0, i, c, hi, _, h => by
    refine Ev.step (fun k => by rw [terrierref02_Sum.l1]) (Ev.iteF (by omega) ?_)
    rw [steps_none] at h
    exact h
  | d + 1, i, c, hi, hc, h => by
    rw [steps_one] at h
    have e1 : (Int.tdiv (c : Int) 2) % 4294967296 = ((c / 2 : Nat) : Int) := by rw [Int.tdiv_eq_ediv_of_nonneg (by omega)]; omega
    have e2 : Int.tmod (c : Int) 2 = ((c % 2 : Nat) : Int) := by rw [Int.tmod_eq_emod_of_nonneg (by omega)]; omega
    refine Ev.step (fun k => by rw [terrierref02_Sum.l1]) (Ev.iteT (by omega) ?_)
    rw [e1, e2, wrapInc (by omega), show (2197175160 : Int) = ((2197175160 : Nat) : Int) from rfl, xor32 _ _ (by omega) (by decide)]
    have hs := step_def c
    by_cases c1 : c % 2 = 1
    · rw [hs, if_pos c1] at h
      exact Ev.iteT (by omega) (refSum_inner l n j d (i + 1) _ (by omega) (Nat.xor_lt_two_pow (by omega) (by decide)) h)
    · rw [hs, if_neg c1] at h
      exact Ev.iteF (by omega) (refSum_inner l n j d (i + 1) _ (by omega) (by omega) h)
theorem refSum_loop (l : List Int) (hb : Bytes l) (hl : l.length ≤ 140737488351232) : ∀ (d j c : Nat), j + d = l.length → c < 2 ^ 32 → Ev (fun k => terrierref02_Sum.l0 k (c : Int) l (l.length : Int) j) ((crc c (l.drop j) ^^^ 4294967295 : Nat) : Int)
  | 0, j, c, hj, hc => by
    refine Ev.step (fun k => by rw [terrierref02_Sum.l0]) (Ev.iteF (by omega) ?_)
    rw [List.drop_eq_nil_of_le (by omega), crc_nil, show (4294967295 : Int) = ((4294967295 : Nat) : Int) from rfl, xor32 _ _ (by decide) hc, Nat.xor_comm]
    exact Ev.now _
  | d + 1, j, c, hj, hc => by
    have hx := rd_byte hb j
    obtain ⟨x, hxe⟩ : ∃ x : Nat, rd l j = (x : Int) := ⟨(rd l j).toNat, by omega⟩
    have hx32 : x < 2 ^ 32 := by omega
    have e1 : (rd l j) % 4294967296 = (x : Int) := by omega
    have hcx := Nat.xor_lt_two_pow hc hx32
    refine Ev.step (fun k => by rw [terrierref02_Sum.l0]) (Ev.iteT (by omega) (Ev.iteT (by omega) (Ev.iteT (by omega) ?_)))
    rw [e1, xor32 c x hc hx32]
    refine refSum_inner l _ j 8 0 _ (by omega) hcx ?_
    rw [wrapInc (by omega)]
    refine Ev.eq (refSum_loop l hb hl d (j + 1) _ (by omega) (steps_lt 8 hcx)) ?_
    rw [rd_drop (l := l) (i := j) (by omega), crc_cons, hxe, Int.toNat_natCast]
theorem refSum_ev (l : List Int) (hb : Bytes l) (hl : l.length ≤ 140737488351232) : Ev (fun k => terrierref02_Sum.f k l) ((sumN l : Nat) : Int) := by
  have := refSum_loop l hb hl l.length 0 4294967295 (by omega) (by decide)
  rw [List.drop_zero] at this
  exact this
def sealB (l : List Int) : List Int := putB (sumN l : Nat) 4 ++ l
theorem seal_length (l : List Int) : (sealB l).length = l.length + 4 := by simp [sealB, putB_length]; omega
theorem Seal_ev (l : List Int) (hb : Bytes l) (hl : l.length ≤ 140737488351232) : Ev (fun k => sum_Seal.f k l) (sealB l) := by
  have hs := sumN_lt hb
  unfold sum_Seal.f
  refine Ev.bind (Sum_one l hb hl) ?_
  rw [wrap_u64_id (by omega) (by omega)]
  refine Ev.bind (Put_ev _ 4 (by omega) (by omega) (by omega) (by omega)) ?_
  have e : putE ((sumN l : Nat) : Int) 4 = (putB (sumN l : Nat) 4, 0) := by
    unfold putE
    simp
    omega
  rw [e]
  exact Ev.iteT (by simp [putB_length]; omega) (Ev.now _)
theorem refSeal_ev (l : List Int) (hb : Bytes l) (hl : l.length ≤ 140737488351232) : Ev (fun k => terrierref02_Seal.f k l) (sealB l) := by
  have hs := sumN_lt hb
  unfold terrierref02_Seal.f
  refine Ev.bind (refSum_ev l hb hl) ?_
  rw [wrap_u64_id (by omega) (by omega)]
  refine Ev.bind (refPut_ev _ 4 (by omega) (by omega) (by omega) (by omega)) ?_
  exact Ev.iteT (by simp [putB_length]; omega) (Ev.now _)
end Go.Proofs.Ytandeendeoempaa.Sum
