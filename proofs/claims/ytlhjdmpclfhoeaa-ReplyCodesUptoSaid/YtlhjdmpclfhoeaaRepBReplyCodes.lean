/- A batch's bytes: package reply's writer and the document's writer, as plain functions on rows of bytes; they say the same. -/
import Derived.Test.YtlhjdmpclfhoeaaRepReplyCodes
import Derived.Test.YtlhjdmpclfhoeaaPCx10
import Derived.Test.YtlhjdmpclfhoeaaPCx11
import Derived.Test.YtlhjdmpclfhoeaaPCx12
set_option linter.unusedSimpArgs false
namespace Go.Proofs.Ytlhjdmpclfhoeaa.RepB
open Go.RowKit Go.Proofs.YtlhjdmpclfhoeaaW.PrintWords Go.Proofs.YtlhjdmpclfhoeaaW.PrintLast Go.Proofs.YtlhjdmpclfhoeaaW.PrintMore Go.Proofs.Ytlhjdmpclfhoeaa.PC Go.Proofs.Ytlhjdmpclfhoeaa.Base Go.Proofs.Ytlhjdmpclfhoeaa.Oct Go.Proofs.Ytlhjdmpclfhoeaa.Rep
theorem add_eq (s l : List Int) (b : Bool) (h : s.length + l.length < 140737488355328) : terrierref20_out_add.f s b l = some (s ++ l, b) := by
  unfold terrierref20_out_add.f
  rw [if_pos h]
theorem add_w (l : List Int) : WEv (fun _ s b => terrierref20_out_add.f s b l) (l, false) := by
  intro s b hl
  unfold terrierref20_out_add.f
  exact Ev.iteT hl (Ev.eq (Ev.now _) (by simp))
theorem rsmall_w (n : Int) : WEv (fun _ s b => terrierref20_out_small.f s b n) (wSmall n) := by
  intro s b hl
  simp only [wSmall, List.length_singleton] at hl ⊢
  unfold terrierref20_out_small.f
  have e := fun b' => add_eq s [n % 256] b' (by simpa using hl)
  by_cases h : n < 0
  · exact Ev.iteT h (Ev.bind0 (e true) (Ev.eq (Ev.now _) (by simp [h])))
  · by_cases h2 : n > 255
    · exact Ev.iteF h (Ev.iteT h2 (Ev.bind0 (e true) (Ev.eq (Ev.now _) (by simp [show 255 < n from h2]))))
    · exact Ev.iteF h (Ev.iteF h2 (Ev.bind0 (e b) (Ev.eq (Ev.now _) (by simp [h, show ¬ 255 < n from h2]))))
theorem rnum_w (n : Int) : WEv (fun k s b => terrierref20_out_num.f k s b n) (wNum n) := by
  intro s b hl
  unfold terrierref20_out_num.f
  have p := refPut_ev (IntKind.u64.wrap n) 8 (by rw [wrap_u64]; omega) (by rw [wrap_u64]; omega) (by omega) (by omega)
  refine Ev.bind p (Ev.bind0 (add_eq s _ b (by simp only [wNum, wPut, putB_length] at hl; rw [putB_length]; exact hl)) (Ev.eq (Ev.now _) ?_))
  simp [wNum, wPut]
theorem rflag_w (f : Bool) : WEv (fun _ s b => terrierref20_out_flag.f s b f) (wFlag f) :=
  WEv.ite (fun _ => ((add_w [1]).fin).eq (by decide)) (fun _ => ((add_w [0]).fin).eq (by decide))
def rCount (n : Nat) : W := (putB (n : Int) 2, decide (65535 < n))
theorem count_bytes (n : Nat) (h : n ≤ 140737488355328) : ([wrap64 (Int.tdiv (n : Int) 256) % 256, Int.tmod (n : Int) 256 % 256] : List Int) = putB (n : Int) 2 := by
  have e1 : Int.tdiv (n : Int) 256 = (n : Int) / 256 := Int.tdiv_eq_ediv_of_nonneg (by omega)
  have e2 : Int.tmod (n : Int) 256 = (n : Int) % 256 := Int.tmod_eq_emod_of_nonneg (by omega)
  rw [e1, e2, wrap64_id (by omega) (by omega)]
  simp only [putB, List.nil_append, List.cons_append, List.cons.injEq, and_true, true_and]
  omega
theorem rcount_w (n : Nat) (h : n ≤ 140737488355328) : WEv (fun _ s b => terrierref20_out_count.f s b (n : Int)) (rCount n) := by
  intro s b hl
  simp only [rCount, putB_length] at hl ⊢
  unfold terrierref20_out_count.f
  rw [count_bytes n h]
  have e := fun b' => add_eq s (putB (n : Int) 2) b' (by rw [putB_length]; exact hl)
  by_cases h2 : 65535 < n
  · exact Ev.iteT (by omega) (Ev.bind0 (e true) (Ev.eq (Ev.now _) (by simp [h2])))
  · exact Ev.iteF (by omega) (Ev.bind0 (e b) (Ev.eq (Ev.now _) (by simp [h2])))
def rText (t : List Int) : W := sq (rCount t.length) (t, false)
theorem rtext_w (t : List Int) (h : t.length ≤ 140737488355328) : WEv (fun _ s b => terrierref20_out_text.f s b t) (rText t) :=
  (rcount_w _ h).seq (add_w t).fin
def rKV (x : S79) : W := sq (rText x.f0) (sq (rText x.f1) (sq (wNum x.f2) (sq (wNum x.f3) (sq (wNum x.f4) (sq (wNum x.f5) ([], false))))))
theorem rkv_step (x : Int × Int × Int × Int) (i j : Int) (h0 : 0 ≤ i) (h4 : i < 4) (hj : wrap64 (i + 1) = j) (v : W) (h : WEv (fun k s z => terrierref20_out_kv.l0 k x j s z) v) : WEv (fun k s z => terrierref20_out_kv.l0 k x i s z) (sq (wNum (Ext.ix4 x i)) v) := by
  subst hj
  intro s z hl
  show Ev (fun k => terrierref20_out_kv.l0 k x i s z) _
  refine Ev.step (fun k => by rw [terrierref20_out_kv.l0]) (Ev.iteT h4 (Ev.iteT h0 ?_))
  exact ((rnum_w (Ext.ix4 x i)).seq h) s z hl
theorem rkv_loop (a b c d : Int) : WEv (fun k s z => terrierref20_out_kv.l0 k (a, b, c, d) 0 s z) (sq (wNum a) (sq (wNum b) (sq (wNum c) (sq (wNum d) ([], false))))) := by
  have h4 : WEv (fun k s z => terrierref20_out_kv.l0 k (a, b, c, d) 4 s z) ([], false) := by
    intro s z _
    show Ev (fun k => terrierref20_out_kv.l0 k (a, b, c, d) 4 s z) _
    refine Ev.step (fun k => by rw [terrierref20_out_kv.l0]) ?_
    exact Ev.iteF (by decide) (Ev.eq (Ev.now _) (by simp))
  exact rkv_step (a, b, c, d) 0 1 (by decide) (by decide) (wrap64_id (by decide) (by decide)) _ (rkv_step (a, b, c, d) 1 2 (by decide) (by decide) (wrap64_id (by decide) (by decide)) _ (rkv_step (a, b, c, d) 2 3 (by decide) (by decide) (wrap64_id (by decide) (by decide)) _ (rkv_step (a, b, c, d) 3 4 (by decide) (by decide) (wrap64_id (by decide) (by decide)) _ h4)))
theorem rkv_w (x : S79) (h0 : x.f0.length ≤ 140737488355328) (h1 : x.f1.length ≤ 140737488355328) : WEv (fun k s b => terrierref20_out_kv.f k s b x.f0 x.f1 x.f2 x.f3 x.f4 x.f5) (rKV x) :=
  (rtext_w _ h0).seq ((rtext_w _ h1).seq (rkv_loop x.f2 x.f3 x.f4 x.f5))
def fin (w : W) : W := if w.2 = true then ([], false) else (w.1, true)
def Sim (x y : W) : Prop := x.2 = y.2 ∧ (x.2 = false → x = y)
theorem Sim.refl (x : W) : Sim x x := ⟨rfl, fun _ => rfl⟩
theorem Sim.sq {a b c d : W} (h : Sim a b) (k : Sim c d) : Sim (Rep.sq a c) (Rep.sq b d) := by
  refine ⟨by simp only [Rep.sq, h.1, k.1], fun z => ?_⟩
  simp only [Rep.sq, Bool.or_eq_false_iff] at z
  rw [h.2 z.1, k.2 z.2]
theorem text_sim (t : List Int) : Sim (wText t) (rText t) := by
  unfold wText rText rCount
  by_cases c : 65535 < t.length
  · rw [if_pos c]
    exact ⟨by simp [Rep.sq, c], fun z => by simp at z⟩
  · rw [if_neg c]
    exact ⟨by simp [Rep.sq, c], fun _ => by simp [Rep.sq, c]⟩
theorem kv_sim (x : S79) : Sim (wKV x) (rKV x) := by
  refine (text_sim _).sq ((text_sim _).sq ?_)
  have e : Rep.sq (wNum x.f5) ([], false) = wNum x.f5 := by simp [Rep.sq]
  rw [e]
  exact Sim.refl _
theorem many_sim {α : Type} (f g : α → W) (h : ∀ y, Sim (f y) (g y)) : ∀ l : List α, Sim (wMany f l) (wMany g l)
  | [] => Sim.refl _
  | y :: l => (h y).sq (many_sim f g h l)
theorem row_sim {α : Type} (f g : α → W) (h : ∀ y, Sim (f y) (g y)) (l : List α) : Sim (wRow f l) (Rep.sq (rCount l.length) (wMany g l)) := by
  unfold wRow rCount
  by_cases c : 65535 < l.length
  · rw [if_pos c]
    exact ⟨by simp [Rep.sq, c], fun z => by simp at z⟩
  · rw [if_neg c]
    have e : ((putB (l.length : Int) 2, decide (65535 < l.length)) : W) = wPut (l.length : Int) 2 := by simp [wPut, c]
    rw [e]
    exact (Sim.refl _).sq (many_sim f g h l)
theorem many_len {α : Type} (f : α → W) (C : Nat) : ∀ l : List α, (∀ y ∈ l, (f y).1.length ≤ C) → (wMany f l).1.length ≤ l.length * C
  | [], _ => by simp [wMany]
  | y :: l, h => by
    have h1 := h y (by simp)
    have h2 := many_len f C l (fun z hz => h z (by simp [hz]))
    simp only [wMany, Rep.sq, List.length_append, List.length_cons, Nat.succ_mul]
    omega
theorem num_len (n : Int) : (wNum n).1.length = 8 := by simp [wNum, wPut, putB_length]
theorem small_len (n : Int) : (wSmall n).1.length = 1 := rfl
theorem flag_len (f : Bool) : (wFlag f).1.length = 1 := by cases f <;> rfl
theorem text_len (t : List Int) : (wText t).1.length ≤ 65537 := by
  unfold wText
  by_cases c : 65535 < t.length
  · rw [if_pos c]; simp
  · rw [if_neg c]; simp only [List.length_append, putB_length]; omega
theorem rtext_len (t : List Int) : (rText t).1.length = 2 + t.length := by simp [rText, rCount, Rep.sq, putB_length]
end Go.Proofs.Ytlhjdmpclfhoeaa.RepB
