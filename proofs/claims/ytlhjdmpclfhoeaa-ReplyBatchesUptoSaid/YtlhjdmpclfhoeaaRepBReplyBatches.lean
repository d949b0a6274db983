/- A batch's bytes: package reply's writer and the document's writer, as plain functions on rows of bytes; they say the same. -/
import Derived.Test.YtlhjdmpclfhoeaaRepReplyBatches
import Derived.Test.YtlhjdmpclfhoeaaPJx10
import Derived.Test.YtlhjdmpclfhoeaaPJx11
import Derived.Test.YtlhjdmpclfhoeaaPJx12
set_option linter.unusedSimpArgs false
namespace Go.Proofs.Ytlhjdmpclfhoeaa.RepB
open Go.RowKit Go.Proofs.YtlhjdmpclfhoeaaW.PrintWords Go.Proofs.YtlhjdmpclfhoeaaW.PrintLast Go.Proofs.YtlhjdmpclfhoeaaW.PrintMore Go.Proofs.Ytlhjdmpclfhoeaa.PJ Go.Proofs.Ytlhjdmpclfhoeaa.Base Go.Proofs.Ytlhjdmpclfhoeaa.Oct Go.Proofs.Ytlhjdmpclfhoeaa.RdE Go.Proofs.Ytlhjdmpclfhoeaa.Rep

/-! ### package reply -/
def wEvent (y : S81) : W := sq (wSmall y.f0) (sq (wKV y.f1) (sq (wFlag y.f2) (wKV y.f3)))
def wBatch (x : S44) : W := sq (wSmall 255) (sq (wNum x.f0) (sq (wFlag x.f2) (sq (wFlag x.f4) (sq (wNum x.f3) (sq (wNum x.f5) (wRow wEvent x.f1))))))
theorem rd_T81_at (l : List S81) (i : Nat) (h : i < l.length) : rd_T81 l i = l[i] := rd_getD l _ i h
theorem event_w (y : S81) : WEv (fun k s b => (reply_writer_small.f s b y.f0).bind fun r => (reply_writer_kv.f k r.1 r.2 y.f1.f0 y.f1.f1 y.f1.f2 y.f1.f3 y.f1.f4 y.f1.f5).bind fun r => (reply_writer_flag.f r.1 r.2 y.f2).bind fun r => reply_writer_kv.f k r.1 r.2 y.f3.f0 y.f3.f1 y.f3.f2 y.f3.f3 y.f3.f4 y.f3.f5) (wEvent y) :=
  (small_w _).seq ((kv_w _).seq ((flag_w _).seq (kv_w _)))
theorem events_w (l : List S81) : WEv (fun k s b => (reply_writer_count.f k s b (l.length : Int)).bind fun r => if r.1 = true then reply_writer_batch.l0 k l (l.length : Int) 0 r.2.1 r.2.2 else some (r.2.1, r.2.2)) (wRow wEvent l) := by
  refine row_w wEvent l (fun k i s b => reply_writer_batch.l0 k l (l.length : Int) i s b) (fun k i s b => (reply_writer_small.f s b (rd_T81 l i).f0).bind fun r => (reply_writer_kv.f k r.1 r.2 (rd_T81 l i).f1.f0 (rd_T81 l i).f1.f1 (rd_T81 l i).f1.f2 (rd_T81 l i).f1.f3 (rd_T81 l i).f1.f4 (rd_T81 l i).f1.f5).bind fun r => (reply_writer_flag.f r.1 r.2 (rd_T81 l i).f2).bind fun r => reply_writer_kv.f k r.1 r.2 (rd_T81 l i).f3.f0 (rd_T81 l i).f3.f1 (rd_T81 l i).f3.f2 (rd_T81 l i).f3.f3 (rd_T81 l i).f3.f4 (rd_T81 l i).f3.f5) (fun k i s b => ?_) (fun i h => ?_)
  · rw [reply_writer_batch.l0]
    simp only [Option.bind_assoc]
  · rw [rd_T81_at l i h]
    exact event_w l[i]
theorem batch_w (x : S44) : WEv (fun k s b => reply_writer_batch.f k s b x.f0 x.f1 x.f2 x.f3 x.f4 x.f5) (wBatch x) :=
  (small_w 255).seq ((num_w _).seq ((flag_w _).seq ((flag_w _).seq ((num_w _).seq ((num_w _).seq (events_w _))))))
def encB (x : S44) : List Int × Int := if (wBatch x).2 = true then ([], 4) else ((wBatch x).1, 0)
theorem EncodeBatch_ev (x : S44) (hw : (wBatch x).1.length < 140737488355328) : Ev (fun k => reply_EncodeBatch.f k x.f0 x.f1 x.f2 x.f3 x.f4 x.f5) (encB x) := by
  unfold reply_EncodeBatch.f
  refine Ev.bind (batch_w x [] false (by simpa using hw)) ?_
  unfold encB
  by_cases c : (wBatch x).2 = true
  · rw [if_pos c]
    exact Ev.iteT (by simpa using c) (Ev.now _)
  · rw [if_neg c]
    exact Ev.iteF (by simpa using c) (Ev.eq (Ev.now _) (by simp))

/-! ### the document -/
theorem add_eq (s l : List Int) (b : Bool) (h : s.length + l.length < 140737488355328) : terrierref20_out_add.f s b l = some (s ++ l, b) := by
  unfold terrierref20_out_add.f
  rw [if_pos h]
theorem add_w (l : List Int) : WEv (fun _ s b => terrierref20_out_add.f s b l) (l, false) := by
  intro s b hl
  unfold terrierref20_out_add.f
  exact Ev.iteT hl (Ev.eq (Ev.now _) (by simp))
theorem rsmall_w (n : Int) : WEv (fun _ s b => terrierref20_out_small.f s b n) (wSmall n) := by
  intro s b hl
  simp only [wSmall, List.length_singleton] at hl ⊢
  unfold terrierref20_out_small.f
  have e := fun b' => add_eq s [n % 256] b' (by simpa using hl)
  by_cases h : n < 0
  · exact Ev.iteT h (Ev.bind0 (e true) (Ev.eq (Ev.now _) (by simp [h])))
  · by_cases h2 : n > 255
    · exact Ev.iteF h (Ev.iteT h2 (Ev.bind0 (e true) (Ev.eq (Ev.now _) (by simp [show 255 < n from h2]))))
    · exact Ev.iteF h (Ev.iteF h2 (Ev.bind0 (e b) (Ev.eq (Ev.now _) (by simp [h, show ¬ 255 < n from h2]))))
theorem rnum_w (n : Int) : WEv (fun k s b => terrierref20_out_num.f k s b n) (wNum n) := by
  intro s b hl
  unfold terrierref20_out_num.f
  have p := refPut_ev (IntKind.u64.wrap n) 8 (by rw [wrap_u64]; omega) (by rw [wrap_u64]; omega) (by omega) (by omega)
  refine Ev.bind p (Ev.bind0 (add_eq s _ b (by simp only [wNum, wPut, putB_length] at hl; rw [putB_length]; exact hl)) (Ev.eq (Ev.now _) ?_))
  simp [wNum, wPut]
theorem rflag_w (f : Bool) : WEv (fun _ s b => terrierref20_out_flag.f s b f) (wFlag f) :=
  WEv.ite (fun _ => ((add_w [1]).fin).eq (by decide)) (fun _ => ((add_w [0]).fin).eq (by decide))
def rCount (n : Nat) : W := (putB (n : Int) 2, decide (65535 < n))
theorem count_bytes (n : Nat) (h : n ≤ 140737488355328) : ([wrap64 (Int.tdiv (n : Int) 256) % 256, Int.tmod (n : Int) 256 % 256] : List Int) = putB (n : Int) 2 := by
  have e1 : Int.tdiv (n : Int) 256 = (n : Int) / 256 := Int.tdiv_eq_ediv_of_nonneg (by omega)
  have e2 : Int.tmod (n : Int) 256 = (n : Int) % 256 := Int.tmod_eq_emod_of_nonneg (by omega)
  rw [e1, e2, wrap64_id (by omega) (by omega)]
  simp only [putB, List.nil_append, List.cons_append, List.cons.injEq, and_true, true_and]
  omega
theorem rcount_w (n : Nat) (h : n ≤ 140737488355328) : WEv (fun _ s b => terrierref20_out_count.f s b (n : Int)) (rCount n) := by
  intro s b hl
  simp only [rCount, putB_length] at hl ⊢
  unfold terrierref20_out_count.f
  rw [count_bytes n h]
  have e := fun b' => add_eq s (putB (n : Int) 2) b' (by rw [putB_length]; exact hl)
  by_cases h2 : 65535 < n
  · exact Ev.iteT (by omega) (Ev.bind0 (e true) (Ev.eq (Ev.now _) (by simp [h2])))
  · exact Ev.iteF (by omega) (Ev.bind0 (e b) (Ev.eq (Ev.now _) (by simp [h2])))
def rText (t : List Int) : W := sq (rCount t.length) (t, false)
theorem rtext_w (t : List Int) (h : t.length ≤ 140737488355328) : WEv (fun _ s b => terrierref20_out_text.f s b t) (rText t) :=
  (rcount_w _ h).seq (add_w t).fin
def rKV (x : S79) : W := sq (rText x.f0) (sq (rText x.f1) (sq (wNum x.f2) (sq (wNum x.f3) (sq (wNum x.f4) (sq (wNum x.f5) ([], false))))))
theorem rkv_step (x : Int × Int × Int × Int) (i j : Int) (h0 : 0 ≤ i) (h4 : i < 4) (hj : wrap64 (i + 1) = j) (v : W) (h : WEv (fun k s z => terrierref20_out_kv.l0 k x j s z) v) : WEv (fun k s z => terrierref20_out_kv.l0 k x i s z) (sq (wNum (Ext.ix4 x i)) v) := by
  subst hj
  intro s z hl
  show Ev (fun k => terrierref20_out_kv.l0 k x i s z) _
  refine Ev.step (fun k => by rw [terrierref20_out_kv.l0]) (Ev.iteT h4 (Ev.iteT h0 ?_))
  exact ((rnum_w (Ext.ix4 x i)).seq h) s z hl
theorem rkv_loop (a b c d : Int) : WEv (fun k s z => terrierref20_out_kv.l0 k (a, b, c, d) 0 s z) (sq (wNum a) (sq (wNum b) (sq (wNum c) (sq (wNum d) ([], false))))) := by
  have h4 : WEv (fun k s z => terrierref20_out_kv.l0 k (a, b, c, d) 4 s z) ([], false) := by
    intro s z _
    show Ev (fun k => terrierref20_out_kv.l0 k (a, b, c, d) 4 s z) _
    refine Ev.step (fun k => by rw [terrierref20_out_kv.l0]) ?_
    exact Ev.iteF (by decide) (Ev.eq (Ev.now _) (by simp))
  exact rkv_step (a, b, c, d) 0 1 (by decide) (by decide) (wrap64_id (by decide) (by decide)) _ (rkv_step (a, b, c, d) 1 2 (by decide) (by decide) (wrap64_id (by decide) (by decide)) _ (rkv_step (a, b, c, d) 2 3 (by decide) (by decide) (wrap64_id (by decide) (by decide)) _ (rkv_step (a, b, c, d) 3 4 (by decide) (by decide) (wrap64_id (by decide) (by decide)) _ h4)))
theorem rkv_w (x : S79) (h0 : x.f0.length ≤ 140737488355328) (h1 : x.f1.length ≤ 140737488355328) : WEv (fun k s b => terrierref20_out_kv.f k s b x.f0 x.f1 x.f2 x.f3 x.f4 x.f5) (rKV x) :=
  (rtext_w _ h0).seq ((rtext_w _ h1).seq (rkv_loop x.f2 x.f3 x.f4 x.f5))
def TextsOk (y : S81) : Prop := (y.f1.f0.length ≤ 1048576 ∧ y.f1.f1.length ≤ 1048576) ∧ (y.f3.f0.length ≤ 1048576 ∧ y.f3.f1.length ≤ 1048576)
def rEvent (y : S81) : W := sq (wSmall y.f0) (sq (rKV y.f1) (sq (wFlag y.f2) (rKV y.f3)))
theorem revent_w (y : S81) (h : TextsOk y) : WEv (fun k s b => (terrierref20_out_small.f s b y.f0).bind fun r => (terrierref20_out_kv.f k r.1 r.2 y.f1.f0 y.f1.f1 y.f1.f2 y.f1.f3 y.f1.f4 y.f1.f5).bind fun r => (terrierref20_out_flag.f r.1 r.2 y.f2).bind fun r => terrierref20_out_kv.f k r.1 r.2 y.f3.f0 y.f3.f1 y.f3.f2 y.f3.f3 y.f3.f4 y.f3.f5) (rEvent y) := by
  obtain ⟨⟨h1, h2⟩, h3, h4⟩ := h
  exact (rsmall_w _).seq ((rkv_w _ (by omega) (by omega)).seq ((rflag_w _).seq (rkv_w _ (by omega) (by omega))))
def fin (w : W) : W := if w.2 = true then ([], false) else (w.1, true)
theorem revents (l : List S81) (hl : l.length ≤ 65535) (ht : ∀ y ∈ l, TextsOk y) : ∀ (m : List S81) (i : Nat), l.drop i = m → i ≤ l.length → ∀ (s : List Int) (b : Bool), s.length + (wMany rEvent m).1.length < 140737488355328 →
    Ev (fun k => terrierref20_EncodeBatch.l0 k l (l.length : Int) i s b) (fin (s ++ (wMany rEvent m).1, b || (wMany rEvent m).2))
  | [], i, hm, hi => by
    have : l.length ≤ i := List.drop_eq_nil_iff.1 hm
    intro s b _
    refine Ev.step (fun k => by rw [terrierref20_EncodeBatch.l0]) (Ev.iteF (by omega) ?_)
    simp only [wMany, List.append_nil, Bool.or_false, fin]
    by_cases c : b = true
    · exact Ev.eq (Ev.iteT c (Ev.now _)) (by rw [if_pos c])
    · exact Ev.eq (Ev.iteF c (Ev.now _)) (by rw [if_neg c])
  | y :: m, i, hm, hi => by
    have h : i < l.length := by
      rcases Nat.lt_or_ge i l.length with h | h
      · exact h
      · rw [List.drop_of_length_le h] at hm; cases hm
    rw [List.drop_eq_getElem_cons h] at hm
    simp only [List.cons.injEq] at hm
    intro s b hs
    have w : wrap64 ((i : Int) + 1) = ((i + 1 : Nat) : Int) := wrapInc (by omega)
    have st := revent_w l[i] (ht _ (List.getElem_mem h))
    rw [hm.1] at st
    simp only [wMany, sq, List.length_append] at hs
    have st1 := st s b (by omega)
    have ih := revents l hl ht m (i + 1) hm.2 h (s ++ (rEvent y).1) (b || (rEvent y).2) (by simp only [List.length_append]; omega)
    refine Ev.step (fun k => by rw [terrierref20_EncodeBatch.l0]) ?_
    rw [rd_T81_at l i h, hm.1, w]
    refine Ev.iteT (by omega) (Ev.iteT (by omega) (Ev.iteT (by omega) ?_))
    have fl : Ev (fun k => ((terrierref20_out_small.f s b y.f0).bind fun r => (terrierref20_out_kv.f k r.1 r.2 y.f1.f0 y.f1.f1 y.f1.f2 y.f1.f3 y.f1.f4 y.f1.f5).bind fun r => (terrierref20_out_flag.f r.1 r.2 y.f2).bind fun r => terrierref20_out_kv.f k r.1 r.2 y.f3.f0 y.f3.f1 y.f3.f2 y.f3.f3 y.f3.f4 y.f3.f5).bind fun r => terrierref20_EncodeBatch.l0 k l (l.length : Int) ((i + 1 : Nat) : Int) r.1 r.2) (fin (s ++ (wMany rEvent (y :: m)).1, b || (wMany rEvent (y :: m)).2)) := by
      refine Ev.bind st1 (Ev.eq ih ?_)
      simp only [wMany, sq, List.append_assoc, Bool.or_assoc]
    simpa only [Option.bind_assoc] using fl
def rBatch (x : S44) : W := sq (wSmall 255) (sq (wNum x.f0) (sq (wFlag x.f2) (sq (wFlag x.f4) (sq (wNum x.f3) (sq (wNum x.f5) (sq (rCount x.f1.length) (wMany rEvent x.f1)))))))
theorem rEncodeBatch_ev (x : S44) (hl : x.f1.length ≤ 65535) (ht : ∀ y ∈ x.f1, TextsOk y) (hw : (rBatch x).1.length < 140737488355328) : Ev (fun k => terrierref20_EncodeBatch.f k x.f0 x.f1 x.f2 x.f3 x.f4 x.f5) (fin (rBatch x)) := by
  unfold terrierref20_EncodeBatch.f
  have hd : WEv (fun k s b => (terrierref20_out_add.f s b [255]).bind fun r => (terrierref20_out_num.f k r.1 r.2 x.f0).bind fun r => (terrierref20_out_flag.f r.1 r.2 x.f2).bind fun r => (terrierref20_out_flag.f r.1 r.2 x.f4).bind fun r => (terrierref20_out_num.f k r.1 r.2 x.f3).bind fun r => (terrierref20_out_num.f k r.1 r.2 x.f5).bind fun r => terrierref20_out_count.f r.1 r.2 (x.f1.length : Int))
      (sq (wSmall 255) (sq (wNum x.f0) (sq (wFlag x.f2) (sq (wFlag x.f4) (sq (wNum x.f3) (sq (wNum x.f5) (rCount x.f1.length))))))) :=
    ((add_w [255]).eq (by decide)).seq ((rnum_w _).seq ((rflag_w _).seq ((rflag_w _).seq ((rnum_w _).seq ((rnum_w _).seq (rcount_w _ (by omega)))))))
  generalize hH : sq (wSmall 255) (sq (wNum x.f0) (sq (wFlag x.f2) (sq (wFlag x.f4) (sq (wNum x.f3) (sq (wNum x.f5) (rCount x.f1.length)))))) = H at hd
  have e : rBatch x = sq H (wMany rEvent x.f1) := by
    rw [← hH]
    simp only [rBatch, sq, List.append_assoc, Bool.or_assoc]
  rw [e] at hw ⊢
  simp only [sq, List.length_append] at hw
  have h1 := hd [] false (by simp only [List.length_nil]; omega)
  have h2 := revents x.f1 hl ht x.f1 0 rfl (by omega) ([] ++ H.1) (false || H.2) (by simp only [List.nil_append]; omega)
  have h3 := Ev.bind (f := fun k r => terrierref20_EncodeBatch.l0 k x.f1 (x.f1.length : Int) 0 r.1 r.2) h1 h2
  simp only [Option.bind_assoc] at h3
  simpa [sq] using h3

/-! ### both -/
def Sim (x y : W) : Prop := x.2 = y.2 ∧ (x.2 = false → x = y)
theorem Sim.refl (x : W) : Sim x x := ⟨rfl, fun _ => rfl⟩
theorem Sim.sq {a b c d : W} (h : Sim a b) (k : Sim c d) : Sim (Rep.sq a c) (Rep.sq b d) := by
  refine ⟨by simp only [Rep.sq, h.1, k.1], fun z => ?_⟩
  simp only [Rep.sq, Bool.or_eq_false_iff] at z
  rw [h.2 z.1, k.2 z.2]
theorem text_sim (t : List Int) : Sim (wText t) (rText t) := by
  unfold wText rText rCount
  by_cases c : 65535 < t.length
  · rw [if_pos c]
    exact ⟨by simp [Rep.sq, c], fun z => by simp at z⟩
  · rw [if_neg c]
    exact ⟨by simp [Rep.sq, c], fun _ => by simp [Rep.sq, c]⟩
theorem kv_sim (x : S79) : Sim (wKV x) (rKV x) := by
  refine (text_sim _).sq ((text_sim _).sq ?_)
  have e : Rep.sq (wNum x.f5) ([], false) = wNum x.f5 := by simp [Rep.sq]
  rw [e]
  exact Sim.refl _
theorem event_sim (y : S81) : Sim (wEvent y) (rEvent y) := (Sim.refl _).sq ((kv_sim _).sq ((Sim.refl _).sq (kv_sim _)))
theorem many_sim {α : Type} (f g : α → W) (h : ∀ y, Sim (f y) (g y)) : ∀ l : List α, Sim (wMany f l) (wMany g l)
  | [] => Sim.refl _
  | y :: l => (h y).sq (many_sim f g h l)
theorem row_sim {α : Type} (f g : α → W) (h : ∀ y, Sim (f y) (g y)) (l : List α) : Sim (wRow f l) (Rep.sq (rCount l.length) (wMany g l)) := by
  unfold wRow rCount
  by_cases c : 65535 < l.length
  · rw [if_pos c]
    exact ⟨by simp [Rep.sq, c], fun z => by simp at z⟩
  · rw [if_neg c]
    have e : ((putB (l.length : Int) 2, decide (65535 < l.length)) : W) = wPut (l.length : Int) 2 := by simp [wPut, c]
    rw [e]
    exact (Sim.refl _).sq (many_sim f g h l)
theorem batch_sim (x : S44) : Sim (wBatch x) (rBatch x) := (Sim.refl _).sq ((Sim.refl _).sq ((Sim.refl _).sq ((Sim.refl _).sq ((Sim.refl _).sq ((Sim.refl _).sq (row_sim _ _ event_sim _))))))

/-! ### how much is written -/
theorem many_len {α : Type} (f : α → W) (C : Nat) : ∀ l : List α, (∀ y ∈ l, (f y).1.length ≤ C) → (wMany f l).1.length ≤ l.length * C
  | [], _ => by simp [wMany]
  | y :: l, h => by
    have h1 := h y (by simp)
    have h2 := many_len f C l (fun z hz => h z (by simp [hz]))
    simp only [wMany, Rep.sq, List.length_append, List.length_cons, Nat.succ_mul]
    omega
theorem num_len (n : Int) : (wNum n).1.length = 8 := by simp [wNum, wPut, putB_length]
theorem small_len (n : Int) : (wSmall n).1.length = 1 := rfl
theorem flag_len (f : Bool) : (wFlag f).1.length = 1 := by cases f <;> rfl
theorem text_len (t : List Int) : (wText t).1.length ≤ 65537 := by
  unfold wText
  by_cases c : 65535 < t.length
  · rw [if_pos c]; simp
  · rw [if_neg c]; simp only [List.length_append, putB_length]; omega
theorem event_len (y : S81) : (wEvent y).1.length ≤ 262300 := by
  have h1 := text_len y.f1.f0
  have h2 := text_len y.f1.f1
  have h3 := text_len y.f3.f0
  have h4 := text_len y.f3.f1
  simp only [wEvent, wKV, Rep.sq, List.length_append, num_len, small_len, flag_len]
  omega
theorem batch_len (x : S44) : (wBatch x).1.length < 140737488355328 := by
  have h : (wRow wEvent x.f1).1.length ≤ 2 + 65535 * 262300 := by
    unfold wRow
    by_cases c : 65535 < x.f1.length
    · rw [if_pos c]; simp
    · rw [if_neg c]
      have := many_len wEvent 262300 x.f1 (fun y _ => event_len y)
      have m : x.f1.length * 262300 ≤ 65535 * 262300 := Nat.mul_le_mul_right _ (by omega)
      simp only [Rep.sq, wPut, List.length_append, putB_length]
      omega
  simp only [wBatch, Rep.sq, List.length_append, num_len, small_len, flag_len]
  omega
theorem rtext_len (t : List Int) : (rText t).1.length = 2 + t.length := by simp [rText, rCount, Rep.sq, putB_length]
theorem revent_len (y : S81) (h : TextsOk y) : (rEvent y).1.length ≤ 4194400 := by
  obtain ⟨⟨h1, h2⟩, h3, h4⟩ := h
  simp only [rEvent, rKV, Rep.sq, List.length_append, num_len, small_len, flag_len, rtext_len, List.length_nil]
  omega
theorem rbatch_len (x : S44) (hl : x.f1.length ≤ 65535) (ht : ∀ y ∈ x.f1, TextsOk y) : (rBatch x).1.length < 140737488355328 := by
  have := many_len rEvent 4194400 x.f1 (fun y hy => revent_len y (ht y hy))
  have m : x.f1.length * 4194400 ≤ 65535 * 4194400 := Nat.mul_le_mul_right _ hl
  simp only [rBatch, rCount, Rep.sq, List.length_append, num_len, small_len, flag_len, putB_length]
  omega
end Go.Proofs.Ytlhjdmpclfhoeaa.RepB
