/- What package reply's writer writes, as plain functions on rows of bytes: what is appended, and whether it can't be coded. -/
import Derived.Test.YtlhjdmpclfhoeaaOctReplyCodes
import Derived.Test.YtlhjdmpclfhoeaaPCx0
import Derived.Test.YtlhjdmpclfhoeaaPCx1
import Derived.Test.YtlhjdmpclfhoeaaPCx2
import Derived.Test.YtlhjdmpclfhoeaaPCx3
import Derived.Test.YtlhjdmpclfhoeaaPCx4
import Derived.Test.YtlhjdmpclfhoeaaPCx5
import Derived.Test.YtlhjdmpclfhoeaaPCx6
import Derived.Test.YtlhjdmpclfhoeaaPCx7
import Derived.Test.YtlhjdmpclfhoeaaPCx8
set_option linter.unusedSimpArgs false
namespace Go.Proofs.Ytlhjdmpclfhoeaa.Rep
open Go.RowKit Go.Proofs.YtlhjdmpclfhoeaaW.PrintWords Go.Proofs.YtlhjdmpclfhoeaaW.PrintLast Go.Proofs.YtlhjdmpclfhoeaaW.PrintMore Go.Proofs.Ytlhjdmpclfhoeaa.PC Go.Proofs.Ytlhjdmpclfhoeaa.Base Go.Proofs.Ytlhjdmpclfhoeaa.Oct
abbrev W := List Int × Bool
def sq (x y : W) : W := (x.1 ++ y.1, x.2 || y.2)
def WEv (g : Nat → List Int → Bool → Option W) (w : W) : Prop := ∀ s b, s.length + w.1.length < 140737488355328 → Ev (fun k => g k s b) (s ++ w.1, b || w.2)
theorem WEv.seq {g h : Nat → List Int → Bool → Option W} {w v : W} (a : WEv g w) (c : WEv h v) : WEv (fun k s b => (g k s b).bind fun r => h k r.1 r.2) (sq w v) := by
  intro s b hl
  simp only [sq, List.length_append] at hl
  refine Ev.bind (a s b (by omega)) (Ev.eq (c _ _ (by simp only [List.length_append]; omega)) ?_)
  simp only [sq, List.append_assoc, Bool.or_assoc]
theorem WEv.fin {g : Nat → List Int → Bool → Option W} {w : W} (a : WEv g w) : WEv (fun k s b => (g k s b).bind fun r => some (r.1, r.2)) w :=
  fun s b hl => Ev.bind (a s b hl) (Ev.now _)
theorem WEv.nil : WEv (fun _ s b => some (s, b)) ([], false) := fun s b _ => Ev.eq (Ev.now _) (by simp)
theorem WEv.ite {c : Prop} [Decidable c] {g h : Nat → List Int → Bool → Option W} {w v : W} (a : c → WEv g w) (d : ¬ c → WEv h v) : WEv (fun k s b => if c then g k s b else h k s b) (if c then w else v) := by
  intro s b hl
  by_cases hc : c
  · rw [if_pos hc] at hl ⊢; exact Ev.iteT hc (a hc s b hl)
  · rw [if_neg hc] at hl ⊢; exact Ev.iteF hc (d hc s b hl)
theorem WEv.step {g f : Nat → List Int → Bool → Option W} {w : W} (h : ∀ k s b, g (k + 1) s b = f k s b) (a : WEv f w) : WEv g w :=
  fun s b hl => Ev.step (fun k => h k s b) (a s b hl)
theorem WEv.eq {g : Nat → List Int → Bool → Option W} {w v : W} (a : WEv g w) (h : w = v) : WEv g v := h ▸ a
theorem WEv.bad {g : Nat → List Int → Bool → Option W} {w : W} {c : Bool} (a : WEv g w) : WEv (fun k s b => if b = true then g k s true else g k s c) (sq ([], c) w) := by
  intro s b hl
  simp only [sq, List.nil_append] at hl ⊢
  cases b
  · exact Ev.iteF (by simp) (Ev.eq (a _ _ hl) (by simp))
  · exact Ev.iteT rfl (Ev.eq (a _ _ hl) (by simp))
def wSmall (n : Int) : W := ([n % 256], decide (n < 0 ∨ 255 < n))
def wPut (n : Int) (d : Nat) : W := (putB n d, false)
def wNum (n : Int) : W := wPut (IntKind.u64.wrap n) 8
def wFlag (f : Bool) : W := if f = true then wSmall 1 else wSmall 0
def wText (t : List Int) : W := if 65535 < t.length then ([], true) else (putB (t.length : Int) 2 ++ t, false)
def wMany {α : Type} (f : α → W) : List α → W
  | [] => ([], false)
  | x :: l => sq (f x) (wMany f l)
def wRow {α : Type} (f : α → W) (l : List α) : W := if 65535 < l.length then ([], true) else sq (wPut (l.length : Int) 2) (wMany f l)
def wKV (x : S79) : W := sq (wText x.f0) (sq (wText x.f1) (sq (wNum x.f2) (sq (wNum x.f3) (sq (wNum x.f4) (wNum x.f5)))))
def wTold (t : S27) : W := sq (wSmall t.f0) (if t.f0 = 1 then sq (wRow wKV t.f1.f0) (sq (wNum t.f1.f1) (wFlag t.f1.f2)) else if t.f0 = 2 then wRow wKV t.f2 else if t.f0 = 3 then sq (wNum t.f3) (wRow wKV t.f2) else ([], true))
def wBody (r : S33) : W :=
  if r.f0 = 1 ∨ r.f0 = 2 ∨ r.f0 = 3 then sq ([], r.f3.f0 != r.f0) (wTold r.f3)
  else if r.f0 = 4 then sq (wFlag r.f4) (wRow wTold r.f5)
  else if r.f0 = 6 then sq (wNum r.f6) (wNum r.f7)
  else if r.f0 = 8 ∨ r.f0 = 13 then sq (wNum r.f6) (sq (wNum r.f7) (wFlag r.f4))
  else if r.f0 = 9 then sq (wNum r.f6) (sq (wNum r.f7) (sq (wNum r.f8) (wRow wText r.f10)))
  else if r.f0 = 10 then wRow wNum r.f9
  else if r.f0 = 11 then wNum r.f6
  else if r.f0 = 14 then wPut (IntKind.u64.wrap r.f11) 4
  else if r.f0 = 15 then sq (wNum r.f7) (wNum r.f8)
  else ([], false)
def wReply (r : S33) : W := sq (wSmall r.f0) (sq (wSmall r.f1) (sq (wNum r.f2) (sq (wNum r.f12) (sq ([], decide (r.f0 < 0) || decide (17 < r.f0)) (if r.f1 = 0 then wBody r else ([], false))))))
theorem small_w (n : Int) : WEv (fun _ s b => reply_writer_small.f s b n) (wSmall n) := by
  intro s b hl
  simp only [wSmall, List.length_singleton] at hl ⊢
  unfold reply_writer_small.f
  cases b
  · refine Ev.iteF (by simp) ?_
    by_cases h : n < 0
    · exact Ev.iteT h (Ev.iteT (by omega) (Ev.eq (Ev.now _) (by simp [h])))
    · refine Ev.iteF h (Ev.iteT (by omega) (Ev.eq (Ev.now _) (by simp [h])))
  · exact Ev.iteT rfl (Ev.iteT (by omega) (Ev.eq (Ev.now _) (by simp)))
theorem put_w (n : Int) (d : Nat) (h0 : 0 ≤ n) (h1 : n < 256 ^ d) (hd : 1 ≤ d) (h8 : d ≤ 8) : WEv (fun k s b => reply_writer_put.f k s b n d) (wPut n d) := by
  intro s b hl
  have p8 := pow256_le h8
  simp only [wPut, putB_length] at hl ⊢
  unfold reply_writer_put.f
  have e : putE n d = (putB n d, 0) := by
    unfold putE
    rw [if_neg (by omega), Int.toNat_natCast, Int.ediv_eq_zero_of_lt h0 h1, if_neg (by simp)]
  refine Ev.bind (Ev.eq (Put_ev n d h0 (by omega) (by omega) (by omega)) e) ?_
  cases b
  · exact Ev.iteF (by simp) (Ev.iteT (by simp only [putB_length]; omega) (Ev.eq (Ev.now _) (by simp)))
  · exact Ev.iteT rfl (Ev.iteT (by simp only [putB_length]; omega) (Ev.eq (Ev.now _) (by simp)))
theorem num_w (n : Int) : WEv (fun k s b => reply_writer_num.f k s b n) (wNum n) :=
  WEv.fin (put_w _ 8 (by rw [wrap_u64]; omega) (by rw [pow256_8, wrap_u64]; omega) (by omega) (by omega))
theorem flag_w (f : Bool) : WEv (fun _ s b => reply_writer_flag.f s b f) (wFlag f) := WEv.ite (fun _ => WEv.fin (small_w 1)) (fun _ => WEv.fin (small_w 0))
theorem count_ev (n : Nat) (s : List Int) (b : Bool) (h : n ≤ 65535) (hl : s.length + 2 < 140737488355328) : Ev (fun k => reply_writer_count.f k s b n) (true, s ++ putB n 2, b) := by
  have p2 : (256 : Int) ^ 2 = 65536 := by decide
  have := put_w (n : Int) 2 (by omega) (by rw [p2]; omega) (by omega) (by omega) s b (by simpa only [wPut, putB_length] using hl)
  unfold reply_writer_count.f
  rw [wrap_u64_id (by omega) (by omega)]
  exact Ev.iteF (by omega) (Ev.bind this (Ev.eq (Ev.now _) (by simp [wPut])))
theorem count_no (n : Nat) (s : List Int) (b : Bool) (h : 65535 < n) : Ev (fun k => reply_writer_count.f k s b n) (false, s, true) := by
  unfold reply_writer_count.f
  exact Ev.iteT (by omega) (Ev.now _)
theorem text_w (t : List Int) : WEv (fun k s b => reply_writer_text.f k s b t) (wText t) := by
  intro s b hl
  unfold reply_writer_text.f
  unfold wText at hl ⊢
  by_cases h : 65535 < t.length
  · rw [if_pos h]
    exact Ev.bind (count_no _ s b h) (Ev.iteF (by simp) (Ev.eq (Ev.now _) (by simp)))
  · rw [if_neg h] at hl ⊢
    simp only [List.length_append, putB_length] at hl
    refine Ev.bind (count_ev _ s b (by omega) (by omega)) (Ev.iteT rfl (Ev.iteT (by simp only [List.length_append, putB_length]; omega) (Ev.eq (Ev.now _) (by simp))))
theorem kv_w (x : S79) : WEv (fun k s b => reply_writer_kv.f k s b x.f0 x.f1 x.f2 x.f3 x.f4 x.f5) (wKV x) :=
  (text_w _).seq ((text_w _).seq ((num_w _).seq ((num_w _).seq ((num_w _).seq (num_w _).fin))))
theorem many_loop {α : Type} (f : α → W) (l : List α) (hl : l.length ≤ 140737488355328) (loop body : Nat → Int → List Int → Bool → Option W)
    (heq : ∀ k i s b, loop (k + 1) i s b = if i < (l.length : Int) then (if 0 ≤ i then (if i < (l.length : Int) then ((body k i s b).bind fun r => loop k (wrap64 (i + 1)) r.1 r.2) else none) else none) else some (s, b))
    (hb : ∀ i : Nat, (h : i < l.length) → WEv (fun k => body k i) (f l[i])) : ∀ (m : List α) (i : Nat), l.drop i = m → i ≤ l.length → WEv (fun k => loop k i) (wMany f m)
  | [], i, hm, hi => by
    have : l.length ≤ i := List.drop_eq_nil_iff.1 hm
    refine WEv.step (fun k s b => heq k i s b) ?_
    intro s b _
    exact Ev.iteF (by omega) (Ev.eq (Ev.now _) (by simp [wMany]))
  | x :: m, i, hm, hi => by
    have h : i < l.length := by
      rcases Nat.lt_or_ge i l.length with h | h
      · exact h
      · rw [List.drop_of_length_le h] at hm; cases hm
    rw [List.drop_eq_getElem_cons h] at hm
    simp only [List.cons.injEq] at hm
    refine WEv.step (fun k s b => heq k i s b) ?_
    have w : wrap64 ((i : Int) + 1) = ((i + 1 : Nat) : Int) := wrapInc (by omega)
    have ih := many_loop f l hl loop body heq hb m (i + 1) hm.2 h
    have st := (hb i h).seq ih
    rw [hm.1] at st
    intro s b hs
    rw [w]
    exact Ev.iteT (by omega) (Ev.iteT (by omega) (Ev.iteT (by omega) (st s b hs)))
theorem row_w {α : Type} (f : α → W) (l : List α) (loop body : Nat → Int → List Int → Bool → Option W)
    (heq : ∀ k i s b, loop (k + 1) i s b = if i < (l.length : Int) then (if 0 ≤ i then (if i < (l.length : Int) then ((body k i s b).bind fun r => loop k (wrap64 (i + 1)) r.1 r.2) else none) else none) else some (s, b))
    (hb : ∀ i : Nat, (h : i < l.length) → WEv (fun k => body k i) (f l[i])) :
    WEv (fun k s b => (reply_writer_count.f k s b (l.length : Int)).bind fun r => if r.1 = true then loop k 0 r.2.1 r.2.2 else some (r.2.1, r.2.2)) (wRow f l) := by
  intro s b hl
  unfold wRow at hl ⊢
  by_cases h : 65535 < l.length
  · rw [if_pos h]
    exact Ev.bind (count_no _ s b h) (Ev.iteF (by simp) (Ev.eq (Ev.now _) (by simp)))
  · rw [if_neg h] at hl ⊢
    simp only [sq, wPut, List.length_append, putB_length] at hl
    refine Ev.bind (count_ev _ s b (by omega) (by omega)) (Ev.iteT rfl (Ev.eq (many_loop f l (by omega) loop body heq hb l 0 rfl (by omega) _ _ (by simp only [List.length_append, putB_length]; omega)) ?_))
    simp [sq, wPut]
theorem rd_getD {α : Type} (l : List α) (z : α) (i : Nat) (h : i < l.length) : l.getD (i : Int).toNat z = l[i] := by
  rw [Int.toNat_natCast, List.getD_eq_getElem?_getD, List.getElem?_eq_getElem h]; rfl
theorem kvs_w (l : List S79) : WEv (fun k s b => reply_writer_kvs.f k s b l) (wRow wKV l) := by
  refine row_w wKV l (fun k i s b => reply_writer_kvs.l0 k l (l.length : Int) i s b) (fun k i s b => reply_writer_kv.f k s b ((rd_T79 l i).f0) ((rd_T79 l i).f1) ((rd_T79 l i).f2) ((rd_T79 l i).f3) ((rd_T79 l i).f4) ((rd_T79 l i).f5)) (fun k i s b => rfl) (fun i h => ?_)
  have e : rd_T79 l i = l[i] := rd_getD l _ i h
  simp only [e]
  exact kv_w _
theorem told_w (t : S27) : WEv (fun k s b => reply_writer_told.f k s b t.f0 t.f1.f0 t.f1.f1 t.f1.f2 t.f2 t.f3) (wTold t) := by
  have z : WEv (fun _ s _ => some (s, true)) ([], true) := fun s b _ => Ev.eq (Ev.now _) (by simp)
  exact (small_w _).seq (WEv.ite (c := t.f0 = 1) (fun _ => (kvs_w _).seq ((num_w _).seq (flag_w _).fin)) fun _ => WEv.ite (c := t.f0 = 2) (fun _ => (kvs_w _).fin) fun _ => WEv.ite (c := t.f0 = 3) (fun _ => (num_w _).seq (kvs_w _).fin) fun _ => z)
theorem rd_T27_at (l : List S27) (i : Nat) (h : i < l.length) : rd_T27 l i = l[i] := rd_getD l _ i h
theorem tolds_w (l : List S27) : WEv (fun k s b => (reply_writer_count.f k s b (l.length : Int)).bind fun r => if r.1 = true then reply_writer_reply.l0 k l (l.length : Int) 0 r.2.1 r.2.2 else some (r.2.1, r.2.2)) (wRow wTold l) := by
  refine row_w wTold l (fun k i s b => reply_writer_reply.l0 k l (l.length : Int) i s b) (fun k i s b => reply_writer_told.f k s b ((rd_T27 l i).f0) ((rd_T27 l i).f1.f0) ((rd_T27 l i).f1.f1) ((rd_T27 l i).f1.f2) ((rd_T27 l i).f2) ((rd_T27 l i).f3)) (fun k i s b => rfl) (fun i h => ?_)
  simp only [rd_T27_at l i h]
  exact told_w _
theorem texts_w (l : List (List Int)) : WEv (fun k s b => (reply_writer_count.f k s b (l.length : Int)).bind fun r => if r.1 = true then reply_writer_reply.l1 k l (l.length : Int) 0 r.2.1 r.2.2 else some (r.2.1, r.2.2)) (wRow wText l) := by
  refine row_w wText l (fun k i s b => reply_writer_reply.l1 k l (l.length : Int) i s b) (fun k i s b => reply_writer_text.f k s b (rd_L1 l i)) (fun k i s b => rfl) (fun i h => ?_)
  have e : rd_L1 l i = l[i] := rd_getD l _ i h
  simp only [e]
  exact text_w _
theorem nums_w (l : List Int) : WEv (fun k s b => (reply_writer_count.f k s b (l.length : Int)).bind fun r => if r.1 = true then reply_writer_reply.l2 k l (l.length : Int) 0 r.2.1 r.2.2 else some (r.2.1, r.2.2)) (wRow wNum l) := by
  refine row_w wNum l (fun k i s b => reply_writer_reply.l2 k l (l.length : Int) i s b) (fun k i s b => reply_writer_num.f k s b (rd l i)) (fun k i s b => rfl) (fun i h => ?_)
  have e : rd l i = l[i] := rd_getD l _ i h
  simp only [e]
  exact num_w _
theorem WEv.bad2 {g : Nat → List Int → Bool → Option W} {w : W} {c : Prop} [Decidable c] {d : Bool} (a : WEv g w) : WEv (fun k s b => if b = true then g k s true else if c then g k s true else g k s d) (sq ([], decide c || d) w) := by
  intro s b hl
  simp only [sq, List.nil_append] at hl ⊢
  cases b
  · refine Ev.iteF (by simp) ?_
    by_cases hc : c
    · exact Ev.iteT hc (Ev.eq (a _ _ hl) (by simp [hc]))
    · exact Ev.iteF hc (Ev.eq (a _ _ hl) (by simp [hc]))
  · exact Ev.iteT rfl (Ev.eq (a _ _ hl) (by simp))
def wRest (r : S33) : W :=
  if r.f0 = 9 then sq (wNum r.f6) (sq (wNum r.f7) (sq (wNum r.f8) (wRow wText r.f10)))
  else if r.f0 = 10 then wRow wNum r.f9
  else if r.f0 = 11 then wNum r.f6
  else if r.f0 = 14 then wPut (IntKind.u64.wrap r.f11) 4
  else if r.f0 = 15 then sq (wNum r.f7) (wNum r.f8)
  else ([], false)
theorem wBody_eq (r : S33) : wBody r = if r.f0 = 1 ∨ r.f0 = 2 ∨ r.f0 = 3 then sq ([], r.f3.f0 != r.f0) (wTold r.f3)
  else if r.f0 = 4 then sq (wFlag r.f4) (wRow wTold r.f5)
  else if r.f0 = 6 then sq (wNum r.f6) (wNum r.f7)
  else if r.f0 = 8 ∨ r.f0 = 13 then sq (wNum r.f6) (sq (wNum r.f7) (wFlag r.f4))
  else wRest r := rfl
theorem j3_w (r : S33) (c : Bool) (h0 : 0 ≤ r.f11) (h1 : r.f11 < 4294967296) : WEv (fun k s b => reply_writer_reply.j3 k r.f0 c s b r.f0 r.f1 r.f2 r.f3.f0 r.f3.f1.f0 r.f3.f1.f1 r.f3.f1.f2 r.f3.f2 r.f3.f3 r.f4 r.f5 r.f6 r.f7 r.f8 r.f9 r.f10 r.f11 r.f12) (if c = true then sq (wNum r.f6) (sq (wNum r.f7) (wFlag r.f4)) else wRest r) := by
  have p4 : (256 : Int) ^ 4 = 4294967296 := by decide
  refine WEv.step (fun k s b => by rw [reply_writer_reply.j3]) ?_
  refine WEv.ite (fun _ => (num_w _).seq ((num_w _).seq (flag_w _).fin)) fun _ => ?_
  exact WEv.ite (fun _ => (num_w _).seq ((num_w _).seq ((num_w _).seq (texts_w _)))) fun _ => WEv.ite (fun _ => nums_w _) fun _ => WEv.ite (fun _ => (num_w _).fin) fun _ =>
    WEv.ite (fun _ => (put_w _ 4 (by rw [wrap_u64]; omega) (by rw [p4, wrap_u64]; omega) (by omega) (by omega)).fin) fun _ => WEv.ite (fun _ => (num_w _).seq (num_w _).fin) fun _ => WEv.nil
theorem j1_w (r : S33) (c : Bool) (h0 : 0 ≤ r.f11) (h1 : r.f11 < 4294967296) : WEv (fun k s b => reply_writer_reply.j1 k r.f0 c s b r.f0 r.f1 r.f2 r.f3.f0 r.f3.f1.f0 r.f3.f1.f1 r.f3.f1.f2 r.f3.f2 r.f3.f3 r.f4 r.f5 r.f6 r.f7 r.f8 r.f9 r.f10 r.f11 r.f12)
    (if c = true then sq ([], r.f3.f0 != r.f0) (wTold r.f3) else if r.f0 = 4 then sq (wFlag r.f4) (wRow wTold r.f5) else if r.f0 = 6 then sq (wNum r.f6) (wNum r.f7)
      else if r.f0 = 8 then (if (r.f0 == 8) = true then sq (wNum r.f6) (sq (wNum r.f7) (wFlag r.f4)) else wRest r) else (if (r.f0 == 13) = true then sq (wNum r.f6) (sq (wNum r.f7) (wFlag r.f4)) else wRest r)) := by
  refine WEv.step (fun k s b => by rw [reply_writer_reply.j1]) ?_
  refine WEv.ite (fun _ => WEv.bad (told_w r.f3).fin) fun _ => ?_
  exact WEv.ite (fun _ => (flag_w _).seq (tolds_w _)) fun _ => WEv.ite (fun _ => (num_w _).seq (num_w _).fin) fun _ => WEv.ite (fun _ => j3_w r _ h0 h1) fun _ => j3_w r _ h0 h1
theorem reply_w (r : S33) (h0 : 0 ≤ r.f11) (h1 : r.f11 < 4294967296) : WEv (fun k s b => reply_writer_reply.f k s b r.f0 r.f1 r.f2 r.f3.f0 r.f3.f1.f0 r.f3.f1.f1 r.f3.f1.f2 r.f3.f2 r.f3.f3 r.f4 r.f5 r.f6 r.f7 r.f8 r.f9 r.f10 r.f11 r.f12) (wReply r) := by
  have e0 : WEv (fun k s b => reply_writer_reply.j0 k s b r.f0 r.f1 r.f2 r.f3.f0 r.f3.f1.f0 r.f3.f1.f1 r.f3.f1.f2 r.f3.f2 r.f3.f3 r.f4 r.f5 r.f6 r.f7 r.f8 r.f9 r.f10 r.f11 r.f12) (if r.f1 = 0 then wBody r else ([], false)) := by
    refine WEv.step (fun k s b => by rw [reply_writer_reply.j0]) ?_
    refine WEv.ite (fun _ => ?_) fun _ => WEv.nil
    refine WEv.eq (WEv.ite (c := r.f0 = 1) (fun _ => j1_w r _ h0 h1) fun _ => WEv.ite (c := r.f0 = 2) (fun _ => j1_w r _ h0 h1) fun _ => j1_w r _ h0 h1) ?_
    rw [wBody_eq]
    by_cases c1 : r.f0 = 1
    · simp [c1]
    by_cases c2 : r.f0 = 2
    · simp [c2]
    by_cases c3 : r.f0 = 3
    · simp [c3]
    by_cases c8 : r.f0 = 8
    · simp [c8]
    simp [c1, c2, c3, c8]
  exact (small_w _).seq ((small_w _).seq ((num_w _).seq ((num_w _).seq (WEv.bad2 e0))))
def toldAloneB (t : S27) : Bool := (t.f0 == 1 || (decide (t.f1.f0.length = 0) && (t.f1.f1 == 0 && !t.f1.f2))) && ((t.f0 == 3 || t.f3 == 0) && (t.f0 != 1 || decide (t.f2.length = 0)))
def noToldB (t : S27) : Bool := decide (t.f1.f0.length = 0) && (decide (t.f2.length = 0) && (t.f0 == 0 && (t.f1.f1 == 0 && (!t.f1.f2 && t.f3 == 0))))
theorem toldAlone_eq (t : S27) : reply_toldAlone.f t.f0 t.f1.f0 t.f1.f1 t.f1.f2 t.f2 t.f3 = some (toldAloneB t) := by
  unfold reply_toldAlone.f toldAloneB
  have e : ∀ n : Nat, ((n : Int) = 0) = (n = 0) := fun n => by simp
  by_cases c1 : t.f0 = 1
  · have e2 : ∀ n : Nat, ((n : Int) == 0) = decide (n = 0) := fun n => by rw [Bool.eq_iff_iff]; simp
    simp only [c1, e, e2]
    by_cases c3 : t.f3 = 0 <;> simp [c3]
  · by_cases c2 : t.f1.f0.length = 0 <;> by_cases c3 : t.f1.f1 = 0 <;> by_cases c4 : t.f1.f2 = true <;> by_cases c5 : t.f0 = 3 <;> by_cases c6 : t.f3 = 0 <;> simp_all
theorem noTold_eq (t : S27) (h1 : t.f1.f0.length ≤ 140737488355328) (h2 : t.f2.length ≤ 140737488355328) : reply_noTold.f t.f0 t.f1.f0 t.f1.f1 t.f1.f2 t.f2 t.f3 = some (noToldB t) := by
  unfold reply_noTold.f noToldB
  rw [wrap64_id (by omega) (by omega)]
  by_cases c2 : t.f1.f0.length = 0
  · by_cases c3 : t.f2.length = 0
    · rw [if_pos (by omega)]
      by_cases c4 : t.f0 = 0 <;> by_cases c5 : t.f1.f1 = 0 <;> by_cases c6 : t.f1.f2 = true <;> simp_all
    · rw [if_neg (by omega)]; simp [c3]
  · rw [if_neg (by omega)]; simp [c2]
def tailB (k : Int) (r : S33) : Bool :=
  (if k = 1 ∨ k = 2 ∨ k = 3 then toldAloneB r.f3 else noToldB r.f3) && ((k == 4 || decide (r.f5.length = 0)) && ((k == 4 || k == 8 || k == 13 || !r.f4) && ((k == 6 || k == 8 || k == 13 || k == 9 || k == 11 || decide (r.f6 = 0)) &&
   ((k == 6 || k == 8 || k == 13 || k == 9 || k == 15 || decide (r.f7 = 0)) && ((k == 9 || k == 15 || decide (r.f8 = 0)) && ((k == 9 || decide (r.f10.length = 0)) && ((k == 10 || decide (r.f9.length = 0)) && (k == 14 || r.f11 == 0))))))))
def aloneB (r : S33) : Bool := r.f5.all toldAloneB && tailB (if r.f1 = 0 then r.f0 else 0) r
theorem some_ite {c : Prop} [Decidable c] {b : Bool} : (if c then some b else some false) = some (decide c && b) := by by_cases h : c <;> simp [h]
theorem some_ite' {c : Prop} [Decidable c] {b : Bool} : (if c then some false else some b) = some (!decide c && b) := by by_cases h : c <;> simp [h]
theorem alone_loop (r : S33) (x : Int) (hl : r.f5.length ≤ 140737488355328) (h1 : r.f3.f1.f0.length ≤ 140737488355328) (h2 : r.f3.f2.length ≤ 140737488355328) : ∀ (m : List S27) (i : Nat), r.f5.drop i = m → i ≤ r.f5.length →
    Ev (fun k => reply_alone.l0 k x r.f5 (r.f5.length : Int) i r.f0 r.f1 r.f2 r.f3.f0 r.f3.f1.f0 r.f3.f1.f1 r.f3.f1.f2 r.f3.f2 r.f3.f3 r.f4 r.f5 r.f6 r.f7 r.f8 r.f9 r.f10 r.f11 r.f12) (m.all toldAloneB && tailB x r)
  | [], i, hm, hi => by
    have : r.f5.length ≤ i := List.drop_eq_nil_iff.1 hm
    refine Ev.step (fun k => by rw [reply_alone.l0]) (Ev.iteF (by omega) (Ev.congr (fun k => ?_) (Ev.now _)))
    simp only [toldAlone_eq, noTold_eq _ h1 h2, Option.bind_some, List.all_nil, Bool.true_and, tailB, some_ite, some_ite', Int.natCast_eq_zero]
    by_cases c1 : x = 1
    · subst c1; simp [some_ite, some_ite']
    by_cases c2 : x = 2
    · subst c2; simp [some_ite, some_ite']
    by_cases c3 : x = 3
    · subst c3; simp [some_ite, some_ite']
    by_cases c4 : x = 4
    · subst c4; simp [some_ite, some_ite']
    by_cases c6 : x = 6
    · subst c6; simp [some_ite, some_ite']
    by_cases c8 : x = 8
    · subst c8; simp [some_ite, some_ite']
    by_cases c13 : x = 13
    · subst c13; simp [some_ite, some_ite']
    by_cases c9 : x = 9
    · subst c9; simp [some_ite, some_ite']
    by_cases c11 : x = 11
    · subst c11; simp [some_ite, some_ite']
    by_cases c15 : x = 15
    · subst c15; simp [some_ite, some_ite']
    by_cases c10 : x = 10
    · subst c10; simp [some_ite, some_ite']
    by_cases c14 : x = 14
    · subst c14; simp [some_ite, some_ite']
    simp [c1, c2, c3, c4, c6, c8, c13, c9, c11, c15, c10, c14, some_ite, some_ite', beq_eq_false_iff_ne.2 c4, beq_eq_false_iff_ne.2 c6, beq_eq_false_iff_ne.2 c8, beq_eq_false_iff_ne.2 c13, beq_eq_false_iff_ne.2 c9, beq_eq_false_iff_ne.2 c11, beq_eq_false_iff_ne.2 c15, beq_eq_false_iff_ne.2 c10, beq_eq_false_iff_ne.2 c14]
  | t :: m, i, hm, hi => by
    have h : i < r.f5.length := by
      rcases Nat.lt_or_ge i r.f5.length with h | h
      · exact h
      · rw [List.drop_of_length_le h] at hm; cases hm
    rw [List.drop_eq_getElem_cons h] at hm
    simp only [List.cons.injEq] at hm
    have w : wrap64 ((i : Int) + 1) = ((i + 1 : Nat) : Int) := wrapInc (by omega)
    refine Ev.step (fun k => by rw [reply_alone.l0]) (Ev.iteT (by omega) (Ev.iteT (by omega) (Ev.iteT (by omega) ?_)))
    rw [rd_T27_at _ i h, hm.1, toldAlone_eq]
    refine Ev.bind0 rfl ?_
    rw [List.all_cons, w]
    by_cases ht : toldAloneB t = true
    · rw [ht]
      exact Ev.iteT rfl (alone_loop r x hl h1 h2 m (i + 1) hm.2 h)
    · rw [Bool.eq_false_iff.2 ht]
      exact Ev.iteF (by simp) (Ev.now _)
theorem alone_ev (r : S33) (hl : r.f5.length ≤ 140737488355328) (h1 : r.f3.f1.f0.length ≤ 140737488355328) (h2 : r.f3.f2.length ≤ 140737488355328) : Ev (fun k => reply_alone.f k r.f0 r.f1 r.f2 r.f3.f0 r.f3.f1.f0 r.f3.f1.f1 r.f3.f1.f2 r.f3.f2 r.f3.f3 r.f4 r.f5 r.f6 r.f7 r.f8 r.f9 r.f10 r.f11 r.f12) (aloneB r) := by
  unfold reply_alone.f aloneB
  by_cases c : r.f1 = 0
  · rw [if_pos c]
    refine Ev.iteT c (Ev.step (fun k => by rw [reply_alone.j0]) ?_)
    exact alone_loop r _ hl h1 h2 r.f5 0 rfl (by omega)
  · rw [if_neg c]
    refine Ev.iteF c (Ev.step (fun k => by rw [reply_alone.j0]) ?_)
    exact alone_loop r _ hl h1 h2 r.f5 0 rfl (by omega)
def encE (r : S33) : List Int × Int := if (wReply r).2 = true then ([], 4) else if aloneB r = true then ((wReply r).1, 0) else ([], 4)
theorem Encode_ev (r : S33) (h0 : 0 ≤ r.f11) (h1 : r.f11 < 4294967296) (hl : r.f5.length ≤ 140737488355328) (h2 : r.f3.f1.f0.length ≤ 140737488355328) (h3 : r.f3.f2.length ≤ 140737488355328) (hw : (wReply r).1.length < 140737488355328) :
    Ev (fun k => reply_Encode.f k r.f0 r.f1 r.f2 r.f3.f0 r.f3.f1.f0 r.f3.f1.f1 r.f3.f1.f2 r.f3.f2 r.f3.f3 r.f4 r.f5 r.f6 r.f7 r.f8 r.f9 r.f10 r.f11 r.f12) (encE r) := by
  unfold reply_Encode.f encE
  refine Ev.bind (reply_w r h0 h1 [] false (by simpa using hw)) ?_
  simp only [List.nil_append, Bool.false_or]
  by_cases c : (wReply r).2 = true
  · rw [if_pos c]; exact Ev.iteT c (Ev.now _)
  · rw [if_neg c]
    refine Ev.iteF c (Ev.bind (alone_ev r hl h2 h3) ?_)
    by_cases d : aloneB r = true
    · exact Ev.eq (Ev.iteT d (Ev.now _)) (if_pos d).symm
    · exact Ev.eq (Ev.iteF d (Ev.now _)) (if_neg d).symm
end Go.Proofs.Ytlhjdmpclfhoeaa.Rep
