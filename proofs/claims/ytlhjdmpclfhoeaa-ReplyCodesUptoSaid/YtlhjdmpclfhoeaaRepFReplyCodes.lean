/- A reply's bytes by the document, as plain functions on rows of bytes: what package reply writes, and when it refuses. -/
import Derived.Test.YtlhjdmpclfhoeaaRepBReplyCodes
import Derived.Test.YtlhjdmpclfhoeaaPCx11
import Derived.Test.YtlhjdmpclfhoeaaPCx12
import Derived.Test.YtlhjdmpclfhoeaaPCx13
import Derived.Test.YtlhjdmpclfhoeaaPCx14
set_option linter.unusedSimpArgs false
namespace Go.Proofs.Ytlhjdmpclfhoeaa.RepF
open Go.RowKit Go.Proofs.YtlhjdmpclfhoeaaW.PrintWords Go.Proofs.YtlhjdmpclfhoeaaW.PrintLast Go.Proofs.YtlhjdmpclfhoeaaW.PrintMore Go.Proofs.Ytlhjdmpclfhoeaa.PC Go.Proofs.Ytlhjdmpclfhoeaa.Base Go.Proofs.Ytlhjdmpclfhoeaa.Oct Go.Proofs.Ytlhjdmpclfhoeaa.Rep Go.Proofs.Ytlhjdmpclfhoeaa.RepB
def FEv (g : Nat → List Int → Bool → Option W) (w : W) : Prop := ∀ s b, s.length + w.1.length < 140737488355328 → Ev (fun k => g k s b) (fin (s ++ w.1, b || w.2))
theorem FEv.seq {g h : Nat → List Int → Bool → Option W} {w v : W} (a : WEv g w) (c : FEv h v) : FEv (fun k s b => (g k s b).bind fun r => h k r.1 r.2) (sq w v) := by
  intro s b hl
  simp only [sq, List.length_append] at hl
  refine Ev.bind (a s b (by omega)) (Ev.eq (c _ _ (by simp only [List.length_append]; omega)) ?_)
  simp only [sq, List.append_assoc, Bool.or_assoc]
theorem FEv.ite {c : Prop} [Decidable c] {g h : Nat → List Int → Bool → Option W} {w v : W} (a : c → FEv g w) (d : ¬ c → FEv h v) : FEv (fun k s b => if c then g k s b else h k s b) (if c then w else v) := by
  intro s b hl
  by_cases hc : c
  · rw [if_pos hc] at hl ⊢; exact Ev.iteT hc (a hc s b hl)
  · rw [if_neg hc] at hl ⊢; exact Ev.iteF hc (d hc s b hl)
theorem FEv.step {g f : Nat → List Int → Bool → Option W} {w : W} (h : ∀ k s b, g (k + 1) s b = f k s b) (a : FEv f w) : FEv g w :=
  fun s b hl => Ev.step (fun k => h k s b) (a s b hl)
theorem FEv.eq {g : Nat → List Int → Bool → Option W} {w v : W} (a : FEv g w) (h : w = v) : FEv g v := h ▸ a
theorem FEv.ret : FEv (fun _ s b => if b = true then some ([], false) else some (s, true)) ([], false) := by
  intro s b _
  cases b
  · exact Ev.iteF (by simp) (Ev.eq (Ev.now _) (by simp [fin]))
  · exact Ev.iteT rfl (Ev.eq (Ev.now _) (by simp [fin]))
theorem FEv.retIf (c : Prop) [Decidable c] : FEv (fun _ s b => if b = true then some ([], false) else if c then some (s, true) else some ([], false)) ([], !decide c) := by
  intro s b _
  cases b
  · refine Ev.iteF (by simp) ?_
    by_cases hc : c
    · exact Ev.iteT hc (Ev.eq (Ev.now _) (by simp [fin, hc]))
    · exact Ev.iteF hc (Ev.eq (Ev.now _) (by simp [fin, hc]))
  · exact Ev.iteT rfl (Ev.eq (Ev.now _) (by simp [fin]))
theorem sq_nil (w : W) : sq w ([], false) = w := by simp [sq]
theorem FEv.of {g : Nat → List Int → Bool → Option W} {w : W} (a : WEv g w) : FEv (fun k s b => (g k s b).bind fun r => if r.2 = true then some ([], false) else some (r.1, true)) w :=
  (FEv.seq a FEv.ret).eq (sq_nil w)
theorem many_fin {α : Type} (f : α → W) (l : List α) (hl : l.length ≤ 140737488355328) (loop body : Nat → Int → List Int → Bool → Option W)
    (heq : ∀ k i s b, loop (k + 1) i s b = if i < (l.length : Int) then (if 0 ≤ i then (if i < (l.length : Int) then ((body k i s b).bind fun r => loop k (wrap64 (i + 1)) r.1 r.2) else none) else none) else (if b = true then some ([], false) else some (s, true)))
    (hb : ∀ i : Nat, (h : i < l.length) → WEv (fun k => body k i) (f l[i])) : ∀ (m : List α) (i : Nat), l.drop i = m → i ≤ l.length → FEv (fun k => loop k i) (wMany f m)
  | [], i, hm, hi => by
    have : l.length ≤ i := List.drop_eq_nil_iff.1 hm
    refine FEv.step (fun k s b => heq k i s b) ?_
    intro s b h
    exact Ev.iteF (by omega) (FEv.ret s b h)
  | x :: m, i, hm, hi => by
    have h : i < l.length := by
      rcases Nat.lt_or_ge i l.length with h | h
      · exact h
      · rw [List.drop_of_length_le h] at hm; cases hm
    rw [List.drop_eq_getElem_cons h] at hm
    simp only [List.cons.injEq] at hm
    refine FEv.step (fun k s b => heq k i s b) ?_
    have w : wrap64 ((i : Int) + 1) = ((i + 1 : Nat) : Int) := wrapInc (by omega)
    have ih := many_fin f l hl loop body heq hb m (i + 1) hm.2 h
    have st := FEv.seq (hb i h) ih
    rw [hm.1] at st
    intro s b hs
    rw [w]
    exact Ev.iteT (by omega) (Ev.iteT (by omega) (Ev.iteT (by omega) (st s b hs)))
def KVsOk (l : List S79) : Prop := l.length ≤ 524288 ∧ ∀ x ∈ l, x.f0.length ≤ 1048576 ∧ x.f1.length ≤ 1048576
def ToldOk (t : S27) : Prop := KVsOk t.f1.f0 ∧ KVsOk t.f2
def rKVs (l : List S79) : W := sq (rCount l.length) (wMany rKV l)
theorem kvs_r (l : List S79) (h : KVsOk l) : WEv (fun k s b => terrierref20_out_kvs.f k s b l) (rKVs l) := by
  have hl := h.1
  refine (rcount_w l.length (by omega)).seq (many_loop rKV l (by omega) (fun k i s b => terrierref20_out_kvs.l0 k l (l.length : Int) i s b) (fun k i s b => terrierref20_out_kv.f k s b ((rd_T79 l i).f0) ((rd_T79 l i).f1) ((rd_T79 l i).f2) ((rd_T79 l i).f3) ((rd_T79 l i).f4) ((rd_T79 l i).f5)) (fun k i s b => rfl) (fun i hi => ?_) l 0 rfl (by omega))
  have e : rd_T79 l (i : Int) = l[i] := rd_getD l _ i hi
  have ht := h.2 _ (List.getElem_mem hi)
  rw [e]
  exact rkv_w _ (by omega) (by omega)
theorem bad_w (c : Bool) : WEv (fun _ s b => if b = true then some (s, true) else some (s, c)) ([], c) := by
  intro s b _
  cases b
  · exact Ev.iteF (by simp) (Ev.eq (Ev.now _) (by simp))
  · exact Ev.iteT rfl (Ev.eq (Ev.now _) (by simp))
theorem bad2_w (c : Prop) [Decidable c] (d : Bool) : WEv (fun _ s b => if b = true then some (s, true) else if c then some (s, true) else some (s, d)) ([], decide c || d) := by
  intro s b _
  cases b
  · refine Ev.iteF (by simp) ?_
    by_cases hc : c
    · exact Ev.iteT hc (Ev.eq (Ev.now _) (by simp [hc]))
    · exact Ev.iteF hc (Ev.eq (Ev.now _) (by simp [hc]))
  · exact Ev.iteT rfl (Ev.eq (Ev.now _) (by simp))
theorem true_w : WEv (fun _ s _ => some (s, true)) ([], true) := fun s b _ => Ev.eq (Ev.now _) (by simp)
def more (t : S27) : Bool := decide ((t.f1.f0.length : Int) > 0) || (t.f1.f1 != 0 || t.f1.f2)
def rRest (c : Bool) (t : S27) : W :=
  if t.f0 = 1 then sq (rKVs t.f1.f0) (sq (wNum t.f1.f1) (sq (wFlag t.f1.f2) ([], decide ((t.f2.length : Int) > 0) || (t.f3 != 0))))
  else if t.f0 = 2 then sq (rKVs t.f2) ([], decide (c = true) || (t.f3 != 0))
  else if t.f0 = 3 then sq (wNum t.f3) (sq (rKVs t.f2) ([], c))
  else ([], true)
def rTold (t : S27) : W := sq (wSmall t.f0) (rRest (more t) t)
theorem rest_r (c : Bool) (t : S27) (h : ToldOk t) : WEv (fun k s b => terrierref20_out_told.j0 k c s b t.f0 t.f1.f0 t.f1.f1 t.f1.f2 t.f2 t.f3) (rRest c t) := by
  refine WEv.step (fun k s b => by rw [terrierref20_out_told.j0]) ?_
  exact WEv.ite (fun _ => (kvs_r _ h.1).seq ((rnum_w _).seq ((rflag_w _).seq (bad2_w _ _)))) fun _ => WEv.ite (fun _ => (kvs_r _ h.2).seq (bad2_w _ _)) fun _ => WEv.ite (fun _ => (rnum_w _).seq ((kvs_r _ h.2).seq (bad_w _))) fun _ => true_w
theorem told_r (t : S27) (h : ToldOk t) : WEv (fun k s b => terrierref20_out_told.f k s b t.f0 t.f1.f0 t.f1.f1 t.f1.f2 t.f2 t.f3) (rTold t) := by
  suffices rest : WEv (fun k s b => if (t.f1.f0.length : Int) > 0 then terrierref20_out_told.j0 k true s b t.f0 t.f1.f0 t.f1.f1 t.f1.f2 t.f2 t.f3 else if t.f1.f1 = 0 then terrierref20_out_told.j0 k t.f1.f2 s b t.f0 t.f1.f0 t.f1.f1 t.f1.f2 t.f2 t.f3 else terrierref20_out_told.j0 k true s b t.f0 t.f1.f0 t.f1.f1 t.f1.f2 t.f2 t.f3) (rRest (more t) t) from (rsmall_w t.f0).seq rest
  intro s b hl
  by_cases c1 : (t.f1.f0.length : Int) > 0
  · have e : more t = true := by simp only [more, decide_eq_true c1, Bool.true_or]
    rw [e] at hl ⊢
    exact Ev.iteT c1 (rest_r true t h s b hl)
  · by_cases c2 : t.f1.f1 = 0
    · have e : more t = t.f1.f2 := by simp only [more, decide_eq_false c1, c2, Bool.false_or]; simp
      rw [e] at hl ⊢
      exact Ev.iteF c1 (Ev.iteT c2 (rest_r _ t h s b hl))
    · have e : more t = true := by simp [more, c2]
      rw [e] at hl ⊢
      exact Ev.iteF c1 (Ev.iteF c2 (rest_r true t h s b hl))
structure ReplyOk (r : S33) : Prop where
  told : ToldOk r.f3
  all : ∀ t ∈ r.f5, ToldOk t
  many : r.f5.length ≤ 50
  ids : r.f9.length ≤ 1048576
  keys : r.f10.length ≤ 1048576
  key : ∀ x ∈ r.f10, x.length ≤ 1048576
  hash : 0 ≤ r.f11 ∧ r.f11 < 4294967296
def rFive (k : Int) (r : S33) : W :=
  if k = 9 then sq (wNum r.f6) (sq (wNum r.f7) (sq (wNum r.f8) (sq (rCount r.f10.length) (wMany rText r.f10))))
  else if k = 10 then sq (rCount r.f9.length) (wMany wNum r.f9)
  else if k = 11 then wNum r.f6
  else if k = 14 then wPut (IntKind.u64.wrap r.f11) 4
  else if k = 15 then sq (wNum r.f7) (wNum r.f8)
  else ([], false)
def rBody (k : Int) (r : S33) : W :=
  if k = 1 ∨ k = 2 ∨ k = 3 then sq (rTold r.f3) ([], !decide (r.f3.f0 = k))
  else if k = 4 then sq (wFlag r.f4) (sq (rCount r.f5.length) (wMany rTold r.f5))
  else if k = 6 then sq (wNum r.f6) (wNum r.f7)
  else if k = 8 ∨ k = 13 then sq (wNum r.f6) (sq (wNum r.f7) (wFlag r.f4))
  else rFive k r
section
variable (r : S33) (x : Int) (ok : ReplyOk r)
include ok
theorem j5_r (c : Bool) : FEv (fun k s b => terrierref20_Encode.j5 k x c r.f0 r.f1 r.f2 r.f3.f0 r.f3.f1.f0 r.f3.f1.f1 r.f3.f1.f2 r.f3.f2 r.f3.f3 r.f4 r.f5 r.f6 r.f7 r.f8 r.f9 r.f10 r.f11 r.f12 s b) (if c = true then sq (wNum r.f6) (sq (wNum r.f7) (wFlag r.f4)) else rFive x r) := by
  have hk := ok.keys
  have hi := ok.ids
  have texts : FEv (fun k s b => (terrierref20_out_count.f s b (r.f10.length : Int)).bind fun q => terrierref20_Encode.l2 k r.f10 (r.f10.length : Int) 0 q.1 q.2) (sq (rCount r.f10.length) (wMany rText r.f10)) := by
    refine FEv.seq (rcount_w _ (by omega)) (many_fin rText r.f10 (by omega) (fun k i s b => terrierref20_Encode.l2 k r.f10 (r.f10.length : Int) i s b) (fun k i s b => terrierref20_out_text.f s b (rd_L1 r.f10 i)) (fun k i s b => rfl) (fun i h => ?_) r.f10 0 rfl (by omega))
    have e : rd_L1 r.f10 (i : Int) = r.f10[i] := rd_getD r.f10 _ i h
    have ht := ok.key _ (List.getElem_mem h)
    rw [e]
    exact rtext_w _ (by omega)
  have nums : FEv (fun k s b => (terrierref20_out_count.f s b (r.f9.length : Int)).bind fun q => terrierref20_Encode.l3 k r.f9 (r.f9.length : Int) 0 q.1 q.2) (sq (rCount r.f9.length) (wMany wNum r.f9)) := by
    refine FEv.seq (rcount_w _ (by omega)) (many_fin wNum r.f9 (by omega) (fun k i s b => terrierref20_Encode.l3 k r.f9 (r.f9.length : Int) i s b) (fun k i s b => terrierref20_out_num.f k s b (rd r.f9 i)) (fun k i s b => rfl) (fun i h => ?_) r.f9 0 rfl (by omega))
    have e : rd r.f9 (i : Int) = r.f9[i] := rd_getD r.f9 _ i h
    rw [e]
    exact rnum_w _
  have hash : FEv (fun k s b => (terrierref01_Put.f k (IntKind.u64.wrap r.f11) 4).bind fun q => (terrierref20_out_add.f s b q).bind fun q => if q.2 = true then some ([], false) else some (q.1, true)) (wPut (IntKind.u64.wrap r.f11) 4) := by
    have h0 := ok.hash
    have p := refPut_ev (IntKind.u64.wrap r.f11) 4 (by rw [wrap_u64]; omega) (by rw [wrap_u64]; omega) (by omega) (by omega)
    intro s b hl
    exact Ev.bind p (FEv.of (add_w (putB (IntKind.u64.wrap r.f11) 4)) s b hl)
  refine FEv.step (fun k s b => by rw [terrierref20_Encode.j5]) ?_
  exact FEv.ite (fun _ => FEv.seq (rnum_w _) (FEv.seq (rnum_w _) (FEv.of (rflag_w _)))) fun _ => FEv.ite (fun _ => FEv.seq (rnum_w _) (FEv.seq (rnum_w _) (FEv.seq (rnum_w _) texts))) fun _ => FEv.ite (fun _ => nums) fun _ => FEv.ite (fun _ => FEv.of (rnum_w _)) fun _ =>
    FEv.ite (fun _ => hash) fun _ => FEv.ite (fun _ => FEv.seq (rnum_w _) (FEv.of (rnum_w _))) fun _ => FEv.ret
theorem j3_r (c : Bool) : FEv (fun k s b => terrierref20_Encode.j3 k x x c r.f0 r.f1 r.f2 r.f3.f0 r.f3.f1.f0 r.f3.f1.f1 r.f3.f1.f2 r.f3.f2 r.f3.f3 r.f4 r.f5 r.f6 r.f7 r.f8 r.f9 r.f10 r.f11 r.f12 s b)
    (if c = true then sq (rTold r.f3) ([], !decide (r.f3.f0 = x)) else if x = 4 then sq (wFlag r.f4) (sq (rCount r.f5.length) (wMany rTold r.f5)) else if x = 6 then sq (wNum r.f6) (wNum r.f7)
      else if x = 8 then (if (x == 8) = true then sq (wNum r.f6) (sq (wNum r.f7) (wFlag r.f4)) else rFive x r) else (if (x == 13) = true then sq (wNum r.f6) (sq (wNum r.f7) (wFlag r.f4)) else rFive x r)) := by
  have hm := ok.many
  have all : FEv (fun k s b => (terrierref20_out_count.f s b (r.f5.length : Int)).bind fun q => terrierref20_Encode.l1 k r.f5 (r.f5.length : Int) 0 q.1 q.2) (sq (rCount r.f5.length) (wMany rTold r.f5)) := by
    refine FEv.seq (rcount_w _ (by omega)) (many_fin rTold r.f5 (by omega) (fun k i s b => terrierref20_Encode.l1 k r.f5 (r.f5.length : Int) i s b) (fun k i s b => terrierref20_out_told.f k s b ((rd_T27 r.f5 i).f0) ((rd_T27 r.f5 i).f1.f0) ((rd_T27 r.f5 i).f1.f1) ((rd_T27 r.f5 i).f1.f2) ((rd_T27 r.f5 i).f2) ((rd_T27 r.f5 i).f3)) (fun k i s b => rfl) (fun i h => ?_) r.f5 0 rfl (by omega))
    rw [rd_T27_at _ i h]
    exact told_r _ (ok.all _ (List.getElem_mem h))
  refine FEv.step (fun k s b => by rw [terrierref20_Encode.j3]) ?_
  exact FEv.ite (fun _ => FEv.seq (told_r _ ok.told) (FEv.retIf _)) fun _ => FEv.ite (fun _ => FEv.seq (rflag_w _) all) fun _ => FEv.ite (fun _ => FEv.seq (rnum_w _) (FEv.of (rnum_w _))) fun _ => FEv.ite (fun _ => j5_r r x ok _) fun _ => j5_r r x ok _
theorem body_r : FEv (fun k s b => if x = 1 then terrierref20_Encode.j3 k x x (x == 1) r.f0 r.f1 r.f2 r.f3.f0 r.f3.f1.f0 r.f3.f1.f1 r.f3.f1.f2 r.f3.f2 r.f3.f3 r.f4 r.f5 r.f6 r.f7 r.f8 r.f9 r.f10 r.f11 r.f12 s b
    else if x = 2 then terrierref20_Encode.j3 k x x (x == 2) r.f0 r.f1 r.f2 r.f3.f0 r.f3.f1.f0 r.f3.f1.f1 r.f3.f1.f2 r.f3.f2 r.f3.f3 r.f4 r.f5 r.f6 r.f7 r.f8 r.f9 r.f10 r.f11 r.f12 s b
    else terrierref20_Encode.j3 k x x (x == 3) r.f0 r.f1 r.f2 r.f3.f0 r.f3.f1.f0 r.f3.f1.f1 r.f3.f1.f2 r.f3.f2 r.f3.f3 r.f4 r.f5 r.f6 r.f7 r.f8 r.f9 r.f10 r.f11 r.f12 s b) (rBody x r) := by
  refine (FEv.ite (fun _ => j3_r r x ok _) fun _ => FEv.ite (fun _ => j3_r r x ok _) fun _ => j3_r r x ok _).eq ?_
  unfold rBody
  by_cases c1 : x = 1
  · simp [c1]
  by_cases c2 : x = 2
  · simp [c2]
  by_cases c3 : x = 3
  · simp [c3]
  by_cases c8 : x = 8
  · simp [c8]
  simp [c1, c2, c3, c8]
end
abbrev B9 := Bool × Bool × Bool × Bool × Bool × Bool × Bool × Bool × Bool
def usedT (k : Int) : B9 :=
  (decide (k = 1 ∨ k = 2 ∨ k = 3), decide (k = 4), decide (k = 4 ∨ k = 8 ∨ k = 13), decide (k = 6 ∨ k = 8 ∨ k = 13 ∨ k = 9 ∨ k = 11), decide (k = 6 ∨ k = 8 ∨ k = 13 ∨ k = 9 ∨ k = 15), decide (k = 9 ∨ k = 15), decide (k = 9), decide (k = 10), decide (k = 14))
theorem used_r (k : Int) : Ev (fun n => terrierref20_used.f n k) (usedT k) := by
  have j1 : ∀ c : Bool, ¬ (k = 1 ∨ k = 2 ∨ k = 3) → k ≠ 4 → k ≠ 6 → (c = true ↔ k = 8 ∨ k = 13) → Ev (fun n => terrierref20_used.j1 n k c) (usedT k) := by
    intro c h1 h4 h6 hc
    refine Ev.step (fun n => by rw [terrierref20_used.j1]) ?_
    by_cases c1 : c = true
    · have := hc.1 c1
      refine Ev.iteT c1 (Ev.eq (Ev.now _) ?_)
      rcases this with rfl | rfl <;> rfl
    refine Ev.iteF c1 ?_
    have n8 : ¬ (k = 8 ∨ k = 13) := fun h => c1 (hc.2 h)
    by_cases c9 : k = 9
    · exact Ev.iteT c9 (Ev.eq (Ev.now _) (by subst c9; rfl))
    refine Ev.iteF c9 ?_
    by_cases c10 : k = 10
    · exact Ev.iteT c10 (Ev.eq (Ev.now _) (by subst c10; rfl))
    refine Ev.iteF c10 ?_
    by_cases c11 : k = 11
    · exact Ev.iteT c11 (Ev.eq (Ev.now _) (by subst c11; rfl))
    refine Ev.iteF c11 ?_
    by_cases c14 : k = 14
    · exact Ev.iteT c14 (Ev.eq (Ev.now _) (by subst c14; rfl))
    refine Ev.iteF c14 ?_
    by_cases c15 : k = 15
    · exact Ev.iteT c15 (Ev.eq (Ev.now _) (by subst c15; rfl))
    refine Ev.iteF c15 (Ev.eq (Ev.now _) ?_)
    simp only [not_or] at h1 n8
    simp [usedT, h1, h4, h6, n8, c9, c10, c11, c14, c15]
  have j0 : ∀ c : Bool, (c = true ↔ k = 1 ∨ k = 2 ∨ k = 3) → Ev (fun n => terrierref20_used.j0 n k c) (usedT k) := by
    intro c hc
    refine Ev.step (fun n => by rw [terrierref20_used.j0]) ?_
    by_cases c1 : c = true
    · have := hc.1 c1
      refine Ev.iteT c1 (Ev.eq (Ev.now _) ?_)
      rcases this with rfl | rfl | rfl <;> rfl
    have h1 : ¬ (k = 1 ∨ k = 2 ∨ k = 3) := fun h => c1 (hc.2 h)
    refine Ev.iteF c1 ?_
    by_cases c4 : k = 4
    · exact Ev.iteT c4 (Ev.eq (Ev.now _) (by subst c4; rfl))
    refine Ev.iteF c4 ?_
    by_cases c6 : k = 6
    · exact Ev.iteT c6 (Ev.eq (Ev.now _) (by subst c6; rfl))
    refine Ev.iteF c6 ?_
    by_cases c8 : k = 8
    · exact Ev.iteT c8 (j1 _ h1 c4 c6 (by simp [c8]))
    · exact Ev.iteF c8 (j1 _ h1 c4 c6 (by simp [c8]))
  unfold terrierref20_used.f
  by_cases c1 : k = 1
  · exact Ev.iteT c1 (j0 _ (by simp [c1]))
  refine Ev.iteF c1 ?_
  by_cases c2 : k = 2
  · exact Ev.iteT c2 (j0 _ (by simp [c2]))
  · exact Ev.iteF c2 (j0 _ (by simp [c1, c2]))
theorem zero_r (t : S27) : terrierref20_zeroTold.f t.f0 t.f1.f0 t.f1.f1 t.f1.f2 t.f2 t.f3 = some (noToldB t) := by
  unfold terrierref20_zeroTold.f noToldB
  by_cases c1 : t.f0 = 0
  · by_cases c2 : t.f1.f0.length = 0
    · by_cases c3 : t.f1.f1 = 0
      · by_cases c4 : t.f1.f2 = true
        · simp [c1, c2, c3, c4]
        · by_cases c5 : t.f2.length = 0 <;> simp [c1, c2, c3, c4, c5]
      · simp [c1, c2, c3]
    · simp [c1, c2]
  · simp [c1]
def thereT (r : S33) : B9 := (!noToldB r.f3, decide (0 < r.f5.length), r.f4, r.f6 != 0, r.f7 != 0, r.f8 != 0, decide (0 < r.f10.length), decide (0 < r.f9.length), r.f11 != 0)
def spareB (u t : B9) : Bool := (t.1 && !u.1) || ((t.2.1 && !u.2.1) || ((t.2.2.1 && !u.2.2.1) || ((t.2.2.2.1 && !u.2.2.2.1) || ((t.2.2.2.2.1 && !u.2.2.2.2.1) || ((t.2.2.2.2.2.1 && !u.2.2.2.2.2.1) || ((t.2.2.2.2.2.2.1 && !u.2.2.2.2.2.2.1) || ((t.2.2.2.2.2.2.2.1 && !u.2.2.2.2.2.2.2.1) || (t.2.2.2.2.2.2.2.2 && !u.2.2.2.2.2.2.2.2))))))))
section
variable (r : S33) (x : Int) (s : List Int) (b : Bool) (u t : B9) (R : W)
abbrev L0 (k : Nat) (i : Int) : Option W := terrierref20_Encode.l0 k x i r.f0 r.f1 r.f2 r.f3.f0 r.f3.f1.f0 r.f3.f1.f1 r.f3.f1.f2 r.f3.f2 r.f3.f3 r.f4 r.f5 r.f6 r.f7 r.f8 r.f9 r.f10 r.f11 r.f12 s b u.1 u.2.1 u.2.2.1 u.2.2.2.1 u.2.2.2.2.1 u.2.2.2.2.2.1 u.2.2.2.2.2.2.1 u.2.2.2.2.2.2.2.1 u.2.2.2.2.2.2.2.2 t.1 t.2.1 t.2.2.1 t.2.2.2.1 t.2.2.2.2.1 t.2.2.2.2.2.1 t.2.2.2.2.2.2.1 t.2.2.2.2.2.2.2.1 t.2.2.2.2.2.2.2.2
theorem L0_step (i j : Int) (h0 : 0 ≤ i) (h9 : i < 9) (hj : wrap64 (i + 1) = j) (h : Ev (fun k => L0 r x s b u t k j) R) : Ev (fun k => L0 r x s b u t k i) (if (Ext.ix9b t i && !Ext.ix9b u i) = true then ([], false) else R) := by
  subst hj
  refine Ev.step (fun k => by rw [L0, terrierref20_Encode.l0]) (Ev.iteT h9 (Ev.iteT h0 ?_))
  cases ht : Ext.ix9b t i
  · exact Ev.eq (Ev.iteF (by simp) h) (by simp)
  · cases hu : Ext.ix9b u i
    · exact Ev.eq (Ev.iteT rfl (Ev.iteF (by simp) (Ev.now _))) (by simp)
    · exact Ev.eq (Ev.iteT rfl (Ev.iteT rfl h)) (by simp)
theorem L0_all (h : Ev (fun k => L0 r x s b u t k 9) R) : Ev (fun k => L0 r x s b u t k 0) (if spareB u t = true then ([], false) else R) := by
  have w : ∀ i : Int, 0 ≤ i → i < 9 → wrap64 (i + 1) = i + 1 := fun i h0 h9 => wrap64_id (by omega) (by omega)
  have h8 := L0_step r x s b u t _ 8 9 (by omega) (by omega) (w 8 (by omega) (by omega)) h
  have h7 := L0_step r x s b u t _ 7 8 (by omega) (by omega) (w 7 (by omega) (by omega)) h8
  have h6 := L0_step r x s b u t _ 6 7 (by omega) (by omega) (w 6 (by omega) (by omega)) h7
  have h5 := L0_step r x s b u t _ 5 6 (by omega) (by omega) (w 5 (by omega) (by omega)) h6
  have h4 := L0_step r x s b u t _ 4 5 (by omega) (by omega) (w 4 (by omega) (by omega)) h5
  have h3 := L0_step r x s b u t _ 3 4 (by omega) (by omega) (w 3 (by omega) (by omega)) h4
  have h2 := L0_step r x s b u t _ 2 3 (by omega) (by omega) (w 2 (by omega) (by omega)) h3
  have h1 := L0_step r x s b u t _ 1 2 (by omega) (by omega) (w 1 (by omega) (by omega)) h2
  have h0 := L0_step r x s b u t _ 0 1 (by omega) (by omega) (w 0 (by omega) (by omega)) h1
  refine Ev.eq h0 ?_
  have e : ∀ (c d : Bool) (y z : W), (if c = true then y else if d = true then y else z) = if (c || d) = true then y else z := fun c d y z => by cases c <;> cases d <;> rfl
  simp only [e]
  rfl
end
def head (r : S33) : W := sq (wSmall r.f0) (sq (wSmall r.f1) (sq (wNum r.f2) (wNum r.f12)))
def kindOf (r : S33) : Int := if r.f1 = 0 then r.f0 else 0
def wide (r : S33) : Bool := decide (r.f0 < 0) || decide (17 < r.f0)
def rW (r : S33) : W := sq (head r) (sq ([], wide r) (sq ([], spareB (usedT (kindOf r)) (thereT r)) (rBody (kindOf r) r)))
theorem rEncode_ev (r : S33) (ok : ReplyOk r) (hw : (head r).1.length + (rBody (kindOf r) r).1.length < 140737488355328) :
    Ev (fun k => terrierref20_Encode.f k r.f0 r.f1 r.f2 r.f3.f0 r.f3.f1.f0 r.f3.f1.f1 r.f3.f1.f2 r.f3.f2 r.f3.f3 r.f4 r.f5 r.f6 r.f7 r.f8 r.f9 r.f10 r.f11 r.f12) (fin (rW r)) := by
  unfold terrierref20_Encode.f
  have hh : WEv (fun k s b => (terrierref20_out_small.f s b r.f0).bind fun q => (terrierref20_out_small.f q.1 q.2 r.f1).bind fun q => (terrierref20_out_num.f k q.1 q.2 r.f2).bind fun q => terrierref20_out_num.f k q.1 q.2 r.f12) (head r) :=
    (rsmall_w _).seq ((rsmall_w _).seq ((rnum_w _).seq (rnum_w _)))
  have e1 := hh [] false (by simp only [List.length_nil]; omega)
  generalize hH : (([] ++ (head r).1, false || (head r).2) : W) = H at e1
  have body : ∀ x : Int, x = kindOf r → Ev (fun k => terrierref20_Encode.j1 k x r.f0 r.f1 r.f2 r.f3.f0 r.f3.f1.f0 r.f3.f1.f1 r.f3.f1.f2 r.f3.f2 r.f3.f3 r.f4 r.f5 r.f6 r.f7 r.f8 r.f9 r.f10 r.f11 r.f12 H.1 H.2)
      (if spareB (usedT x) (thereT r) = true then ([], false) else fin (H.1 ++ (rBody x r).1, H.2 || (rBody x r).2)) := by
    intro x hx
    refine Ev.step (fun k => by rw [terrierref20_Encode.j1]) (Ev.bind (used_r x) (Ev.bind0 (zero_r r.f3) ?_))
    refine L0_all r x H.1 H.2 (usedT x) (thereT r) _ ?_
    refine Ev.step (fun k => by rw [L0, terrierref20_Encode.l0]) (Ev.iteF (by omega) ?_)
    have hl : H.1.length = (head r).1.length := by rw [← hH]; rfl
    exact body_r r x ok H.1 H.2 (by rw [hx]; omega)
  have j0 : ∀ c : Bool, c = wide r → Ev (fun k => terrierref20_Encode.j0 k r.f0 c r.f0 r.f1 r.f2 r.f3.f0 r.f3.f1.f0 r.f3.f1.f1 r.f3.f1.f2 r.f3.f2 r.f3.f3 r.f4 r.f5 r.f6 r.f7 r.f8 r.f9 r.f10 r.f11 r.f12 H.1 H.2) (fin (rW r)) := by
    intro c hc
    refine Ev.step (fun k => by rw [terrierref20_Encode.j0]) ?_
    cases hcc : c
    · have fl : (if spareB (usedT (kindOf r)) (thereT r) = true then (([], false) : W) else fin (H.1 ++ (rBody (kindOf r) r).1, H.2 || (rBody (kindOf r) r).2)) = fin (rW r) := by
        have hw0 : wide r = false := by rw [← hc, hcc]
        rw [← hH]
        unfold rW fin
        cases spareB (usedT (kindOf r)) (thereT r) <;> simp [sq, hw0]
      refine Ev.iteF (by simp) ?_
      rw [← fl]
      by_cases c1 : r.f1 = 0
      · exact Ev.iteT c1 (by have := body r.f0 (by simp [kindOf, c1]); rwa [show kindOf r = r.f0 by simp [kindOf, c1]])
      · exact Ev.iteF c1 (by have := body 0 (by simp [kindOf, c1]); rwa [show kindOf r = 0 by simp [kindOf, c1]])
    · refine Ev.iteT rfl (Ev.eq (Ev.now _) ?_)
      have hw1 : wide r = true := by rw [← hc, hcc]
      simp [rW, fin, sq, hw1]
  have h2 : Ev (fun k => if r.f0 < 0 then terrierref20_Encode.j0 k r.f0 true r.f0 r.f1 r.f2 r.f3.f0 r.f3.f1.f0 r.f3.f1.f1 r.f3.f1.f2 r.f3.f2 r.f3.f3 r.f4 r.f5 r.f6 r.f7 r.f8 r.f9 r.f10 r.f11 r.f12 H.1 H.2 else terrierref20_Encode.j0 k r.f0 (decide (r.f0 > 17)) r.f0 r.f1 r.f2 r.f3.f0 r.f3.f1.f0 r.f3.f1.f1 r.f3.f1.f2 r.f3.f2 r.f3.f3 r.f4 r.f5 r.f6 r.f7 r.f8 r.f9 r.f10 r.f11 r.f12 H.1 H.2) (fin (rW r)) := by
    by_cases c : r.f0 < 0
    · exact Ev.iteT c (j0 true (by simp [wide, c]))
    · exact Ev.iteF c (j0 _ (by simp [wide, c]))
  have h3 := Ev.bind (f := fun k q => if r.f0 < 0 then terrierref20_Encode.j0 k r.f0 true r.f0 r.f1 r.f2 r.f3.f0 r.f3.f1.f0 r.f3.f1.f1 r.f3.f1.f2 r.f3.f2 r.f3.f3 r.f4 r.f5 r.f6 r.f7 r.f8 r.f9 r.f10 r.f11 r.f12 q.1 q.2 else terrierref20_Encode.j0 k r.f0 (decide (r.f0 > 17)) r.f0 r.f1 r.f2 r.f3.f0 r.f3.f1.f0 r.f3.f1.f1 r.f3.f1.f2 r.f3.f2 r.f3.f3 r.f4 r.f5 r.f6 r.f7 r.f8 r.f9 r.f10 r.f11 r.f12 q.1 q.2) e1 h2
  simp only [Option.bind_assoc] at h3
  exact h3
end Go.Proofs.Ytlhjdmpclfhoeaa.RepF
