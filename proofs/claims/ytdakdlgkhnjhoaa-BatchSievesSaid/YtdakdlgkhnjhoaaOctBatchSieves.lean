/- What octets.Put, octets.Get and the document's Put, Fits, Get, Twin, Same come to, as plain functions. -/
import Derived.Test.YtdakdlgkhnjhoaaBase
import Derived.Test.YtdakdlgkhnjhoaaPAx1
import Derived.Test.YtdakdlgkhnjhoaaPAx4
import Derived.Test.YtdakdlgkhnjhoaaPAx7
import Derived.Test.YtdakdlgkhnjhoaaPAx9
namespace Go.Proofs.Ytdakdlgkhnjhoaa.Oct
open Go.RowKit Go.Proofs.YtdakdlgkhnjhoaaW.PrintWords Go.Proofs.YtdakdlgkhnjhoaaW.PrintMore Go.Proofs.Ytdakdlgkhnjhoaa.PA Go.Proofs.Ytdakdlgkhnjhoaa.Base

theorem Same_eq {l m : List Int} (hl : Bytes l) (hm : Bytes m) : terrierref01_Same.f l m = some (decide (l = m)) := by
  unfold terrierref01_Same.f; rw [same_bytes hl hm]
theorem Same_self (l : List Int) : terrierref01_Same.f l l = some true := by
  unfold terrierref01_Same.f; rw [same_self]
theorem Equal_eq {l m : List Int} (hl : Bytes l) (hm : Bytes m) : bytes_Equal.f l m = some (decide (l = m)) := by
  unfold bytes_Equal.f; rw [same_bytes hl hm]
theorem Twin_eq {l : List Int} (h : l.length < 140737488355328) : terrierref01_Twin.f l = some l := by
  simp [terrierref01_Twin.f, h]
theorem Clone_eq {l : List Int} (h : l.length < 140737488355328) : bytes_Clone.f l = some l := by
  simp [bytes_Clone.f, h]
/-- What Get answers. -/
def getE (l : List Int) (i size : Int) : Int × Int :=
  if size < 1 ∨ 8 < size then (0, 1) else if i < 0 ∨ (l.length : Int) < i ∨ (l.length : Int) - i < size then (0, 3) else (getB ((l.drop i.toNat).take size.toNat), 0)
theorem getA_step {a x : Int} {n d : Nat} (h0 : 0 ≤ a) (ha : a < 256 ^ n) (hx : 0 ≤ x ∧ x < 256) (hd : n + (d + 1) ≤ 8) : a * 256 < 18446744073709551616 ∧ 0 ≤ a * 256 + x ∧ a * 256 + x < 256 ^ (n + 1) := by
  have h1 := pow256_le (d := n + 1) (by omega)
  rw [Int.pow_succ] at h1 ⊢
  omega
theorem Cmp_eq {l m : List Int} (hl : Bytes l) (hm : Bytes m) : bytes_Compare.f l m = some (cmpB l m) := by
  unfold bytes_Compare.f
  rw [strOfNums_data, strOfNums_data, compareBytes_eq hl hm]
theorem Ahead_loop (l m : List Int) (hm : m.length < 9223372036854775807) : ∀ (d : Nat) (i : Nat), i + d = m.length → Ev (fun k => terrierref01_Ahead.l0 k l m i) (decide (cmpB (l.drop i) (m.drop i) = -1))
  | 0, i, hi => by
    refine Ev.step (fun k => by rw [terrierref01_Ahead.l0]) ?_
    refine Ev.iteF (by omega) ?_
    rw [List.drop_of_length_le (by omega : m.length ≤ i)]
    have : ¬ cmpB (l.drop i) [] = -1 := by cases l.drop i <;> simp [cmpB]
    rw [decide_eq_false this]
    exact Ev.now _
  | d + 1, i, hi => by
    refine Ev.step (fun k => by rw [terrierref01_Ahead.l0]) ?_
    refine Ev.iteT (by omega) ?_
    rw [rd_drop (by omega : i < m.length)]
    by_cases c : i < l.length
    · refine Ev.iteF (by omega) (Ev.iteT (by omega) (Ev.iteT (by omega) ?_))
      rw [rd_drop c, cmpB]
      by_cases q : rd l i = rd m i
      · rw [if_neg (by omega), if_neg (by omega)]
        refine Ev.iteT q ?_
        rw [wrapInc (by omega)]
        exact Ahead_loop l m hm d (i + 1) (by omega)
      · refine Ev.iteF q ?_
        by_cases r : rd l i < rd m i
        · rw [if_pos r, decide_eq_true r]; exact Ev.now _
        · rw [if_neg r, if_pos (by omega), decide_eq_false r]; exact Ev.now _
    · refine Ev.iteT (by omega) ?_
      rw [List.drop_of_length_le (by omega : l.length ≤ i)]
      exact Ev.now _
theorem Ahead_ev (l m : List Int) (hm : m.length < 9223372036854775807) : Ev (fun k => terrierref01_Ahead.f k l m) (decide (cmpB l m = -1)) := by
  have := Ahead_loop l m hm m.length 0 (by omega)
  simpa [terrierref01_Ahead.f] using this
/-- Is a key in a range? -/
def inB (k key e : List Int) : Bool := if e = [] then decide (k = key) else if e = [0] then decide (0 ≤ cmpB k key) else decide (0 ≤ cmpB k key) && decide (cmpB k e < 0)
theorem len_one {l : List Int} (h : l.length = 1) : l = [rd l 0] := by
  match l, h with
  | [x], _ => rfl
theorem In_ev (k key e : List Int) (hk : Bytes k) (hy : Bytes key) (he : Bytes e) : Ev (fun n => octets_In.f n k key e) (inB k key e) := by
  have t1 : ∀ n, octets_In.j0 (n + 1) k key e true = some (decide (cmpB k key ≥ 0)) := by
    intro n; rw [octets_In.j0, if_pos rfl, Cmp_eq hk hy]; rfl
  have t2 : ∀ n, octets_In.j0 (n + 1) k key e false = some (decide (0 ≤ cmpB k key) && decide (cmpB k e < 0)) := by
    intro n; rw [octets_In.j0, if_neg (by simp), Cmp_eq hk hy, Option.bind_some, Cmp_eq hk he]
    by_cases c : cmpB k key ≥ 0
    · rw [if_pos c, decide_eq_true (show 0 ≤ cmpB k key from c)]; rfl
    · rw [if_neg c, decide_eq_false (show ¬ 0 ≤ cmpB k key from c)]; rfl
  unfold octets_In.f inB
  by_cases c0 : (e.length : Int) = 0
  · have : e = [] := List.eq_nil_of_length_eq_zero (by omega)
    refine Ev.iteT c0 ?_
    rw [if_pos this, Equal_eq hk hy]
    exact Ev.now _
  refine Ev.iteF c0 ?_
  have ne : e ≠ [] := fun z => c0 (by rw [z]; rfl)
  rw [if_neg ne]
  by_cases c1 : (e.length : Int) = 1
  · have e1 := len_one (l := e) (by omega)
    refine Ev.iteT c1 (Ev.iteT (by omega) ?_)
    by_cases c2 : rd e 0 = 0
    · have : e = [0] := by rw [e1, c2]
      rw [if_pos this, c2]
      exact Ev.step (f := fun _ => some (decide (cmpB k key ≥ 0))) t1 (Ev.now _)
    · have : e ≠ [0] := fun z => c2 (by rw [z]; rfl)
      rw [if_neg this, show (rd e 0 == 0) = false by simp [c2]]
      exact Ev.step t2 (Ev.now _)
  · have : e ≠ [0] := fun z => c1 (by rw [z]; rfl)
    rw [if_neg this]
    exact Ev.iteF c1 (Ev.step t2 (Ev.now _))
theorem refIn_ev (k key e : List Int) (hk : Bytes k) (hy : Bytes key) (he : Bytes e) (ly : key.length ≤ 140737488351232) (le : e.length ≤ 140737488351232) : Ev (fun n => terrierref01_In.f n k key e) (inB k key e) := by
  unfold terrierref01_In.f inB
  by_cases c0 : (e.length : Int) = 0
  · have : e = [] := List.eq_nil_of_length_eq_zero (by omega)
    refine Ev.iteT c0 ?_
    rw [if_pos this, Same_eq hk hy]
    exact Ev.now _
  have ne : e ≠ [] := fun z => c0 (by rw [z]; rfl)
  refine Ev.iteF c0 (Ev.bind (Ahead_ev k key (by omega)) ?_)
  rw [if_neg ne]
  have h3 := cmpB_three k key
  have h4 := cmpB_three k e
  by_cases c1 : cmpB k key = -1
  · rw [decide_eq_true c1]
    refine Ev.iteT rfl ?_
    have : ¬ 0 ≤ cmpB k key := by omega
    simp [this]
    exact Ev.now _
  · rw [decide_eq_false c1]
    have q : 0 ≤ cmpB k key := by omega
    refine Ev.iteF (by simp) ?_
    rw [Same_eq he (by simp [Bytes])]
    refine Ev.bind0 rfl ?_
    by_cases c2 : e = [0]
    · rw [decide_eq_true c2, if_pos c2, decide_eq_true q]
      exact Ev.iteT rfl (Ev.now _)
    · rw [decide_eq_false c2, if_neg c2]
      refine Ev.iteF (by simp) (Ev.bind (Ahead_ev k e (by omega)) ?_)
      rw [decide_eq_true q]
      refine Ev.eq (Ev.now _) ?_
      by_cases z : cmpB k e = -1
      · rw [decide_eq_true z, decide_eq_true (by omega)]; rfl
      · rw [decide_eq_false z, decide_eq_false (by omega)]; rfl
end Go.Proofs.Ytdakdlgkhnjhoaa.Oct
