/- What the printed readers of package reply read is what the plain ones read. -/
import Derived.Test.YtlhjdmpclfhoeaaRepRReplyCuts
import Derived.Test.YtlhjdmpclfhoeaaPKx11
import Derived.Test.YtlhjdmpclfhoeaaPKx12
import Derived.Test.YtlhjdmpclfhoeaaPKx14
import Derived.Test.YtlhjdmpclfhoeaaPKx15
import Derived.Test.YtlhjdmpclfhoeaaPKx16
import Derived.Test.YtlhjdmpclfhoeaaPKx17
set_option linter.unusedSimpArgs false
namespace Go.Proofs.Ytlhjdmpclfhoeaa.RepE
open Go.RowKit Go.Proofs.YtlhjdmpclfhoeaaW.PrintWords Go.Proofs.YtlhjdmpclfhoeaaW.PrintLast Go.Proofs.YtlhjdmpclfhoeaaW.PrintMore Go.Proofs.Ytlhjdmpclfhoeaa.PK Go.Proofs.Ytlhjdmpclfhoeaa.Base Go.Proofs.Ytlhjdmpclfhoeaa.Oct Go.Proofs.Ytlhjdmpclfhoeaa.RdE Go.Proofs.Ytlhjdmpclfhoeaa.Rep Go.Proofs.Ytlhjdmpclfhoeaa.RepR
theorem well_eq (B : List Int) (a e : Int) : reply_reader_well.f B a e = some (decide (e = 0 ∨ e = 5), a, e) := by
  unfold reply_reader_well.f
  simp only [End_eq, Option.bind_some, endE]
  by_cases c : e = 0
  · subst c
    by_cases d : a < (B.length : Int) <;> simp [d]
  · simp only [if_neg c]
    rw [Bool.eq_iff_iff.2 (show (e == 5) = true ↔ decide (e = 0 ∨ e = 5) = true by simp [c])]
theorem bd_eq {α β : Type} (p : R α) (f : α → R β) (B : List Int) (a e : Int) : bd p f B a e = f (p B a e).1 B (p B a e).2.1 (p B a e).2.2 := rfl
section
variable (B : List Int) (hb : Bytes B) (hl : B.length ≤ 140737488351232)
include hb hl
theorem small_ev (a e : Int) (h0 : 0 ≤ a) (h1 : a ≤ B.length) : Ev (fun k => reply_reader_small.f k B a e) (smallR B a e) := by
  unfold reply_reader_small.f
  refine Ev.bind (Num_ev B hb hl a e 1 h0 h1 (by omega)) (Ev.eq (Ev.now _) ?_)
  have r := numE_range hb a e 1
  have p1 : (256 : Int) ^ Int.toNat 1 = 256 := by decide
  rw [p1] at r
  rw [wrap64_id (by omega) (by omega)]; rfl
theorem count_ev (a e : Int) (h0 : 0 ≤ a) (h1 : a ≤ B.length) : Ev (fun k => reply_reader_count.f k B a e) (countR B a e) := by
  unfold reply_reader_count.f
  refine Ev.bind (Num_ev B hb hl a e 2 h0 h1 (by omega)) (Ev.eq (Ev.now _) ?_)
  have r := numE_range hb a e 2
  have p1 : (256 : Int) ^ Int.toNat 2 = 65536 := by decide
  rw [p1] at r
  rw [wrap64_id (by omega) (by omega)]; rfl
theorem num_ev (a e : Int) (h0 : 0 ≤ a) (h1 : a ≤ B.length) : Ev (fun k => reply_reader_num.f k B a e) (numR B a e) := by
  unfold reply_reader_num.f
  exact Ev.bind (Num_ev B hb hl a e 8 h0 h1 (by omega)) (Ev.now _)
theorem text_ev (a e : Int) (h0 : 0 ≤ a) (h1 : a ≤ B.length) : Ev (fun k => reply_reader_text.f k B a e) (textR B a e) := by
  unfold reply_reader_text.f
  exact Ev.bind (Text_ev B hb hl a e 65535 h0 h1) (Ev.now _)
theorem kv_ev (a e : Int) (h0 : 0 ≤ a) (h1 : a ≤ B.length) : Ev (fun k => reply_reader_kv.f k B a e) ((kvR B a e).1.f0, (kvR B a e).1.f1, (kvR B a e).1.f2, (kvR B a e).1.f3, (kvR B a e).1.f4, (kvR B a e).1.f5, (kvR B a e).2.1, (kvR B a e).2.2) := by
  unfold reply_reader_kv.f
  have i1 := textR_good.inb B a e hb h0 h1
  refine Ev.bind (text_ev B hb hl a e h0 h1) ?_
  have i2 := textR_good.inb B _ (textR B a e).2.2 hb i1.1 i1.2
  refine Ev.bind (text_ev B hb hl _ _ i1.1 i1.2) ?_
  generalize hx : textR B (textR B a e).2.1 (textR B a e).2.2 = x2 at *
  have i3 := numR_good.inb B _ x2.2.2 hb i2.1 i2.2
  refine Ev.bind (num_ev B hb hl _ _ i2.1 i2.2) ?_
  generalize hx3 : numR B x2.2.1 x2.2.2 = x3 at *
  have i4 := numR_good.inb B _ x3.2.2 hb i3.1 i3.2
  refine Ev.bind (num_ev B hb hl _ _ i3.1 i3.2) ?_
  generalize hx4 : numR B x3.2.1 x3.2.2 = x4 at *
  have i5 := numR_good.inb B _ x4.2.2 hb i4.1 i4.2
  refine Ev.bind (num_ev B hb hl _ _ i4.1 i4.2) ?_
  generalize hx5 : numR B x4.2.1 x4.2.2 = x5 at *
  refine Ev.bind (num_ev B hb hl _ _ i5.1 i5.2) (Ev.eq (Ev.now _) ?_)
  unfold kvR
  simp only [bd_eq, hx, hx3, hx4, hx5, pr]
theorem rd_loop {α β σ : Type} (p : R α) (hp : RepR.Good p) (loop : Nat → Int → List α → Int → Int → Option σ) (out : List α → Int → Int → σ) (n : Int) (hn : n ≤ 65535) (C : Nat) (hC : 65535 ≤ C) (body : Nat → Int → Int → Option β) (mk : β → α) (pa pe : β → Int) (enc : α × Int × Int → β)
    (h1 : ∀ x, mk (enc x) = x.1) (h2 : ∀ x, pa (enc x) = x.2.1) (h3 : ∀ x, pe (enc x) = x.2.2)
    (hbody : ∀ (a e : Int), 0 ≤ a → a ≤ B.length → Ev (fun k => body k a e) (enc (p B a e)))
    (heq : ∀ (k : Nat) (i : Int) (acc : List α) (a e : Int), loop (k + 1) i acc a e = if i < n then ((reply_reader_well.f B a e).bind fun bt => (if bt.1 = true then ((body k bt.2.1 bt.2.2).bind fun r => (if acc.length < C then loop k (wrap64 (i + 1)) (acc ++ [mk r]) (pa r) (pe r) else none)) else some (out acc bt.2.1 bt.2.2))) else some (out acc a e)) :
    ∀ (d : Nat) (i : Nat) (acc : List α) (a e : Int), (n ≤ i ∧ d = 0 ∨ (i : Int) + d = n) → acc.length ≤ i → 0 ≤ a → a ≤ B.length → Ev (fun k => loop k i acc a e) (out (acc ++ (mny p d B a e).1) (mny p d B a e).2.1 (mny p d B a e).2.2)
  | 0, i, acc, a, e, hd, _, _, _ => by
    have _ := hl
    refine Ev.step (fun k => heq k i acc a e) (Ev.iteF (by omega) (Ev.eq (Ev.now _) ?_))
    simp [mny, pr]
  | d + 1, i, acc, a, e, hd, hi, a0, a1 => by
    refine Ev.step (fun k => heq k i acc a e) (Ev.iteT (by omega) (Ev.bind0 (well_eq B a e) ?_))
    by_cases c : e = 0 ∨ e = 5
    · refine Ev.iteT (by simpa using c) (Ev.bind (hbody a e a0 a1) (Ev.iteT (by omega) ?_))
      rw [h1, h2, h3, wrapInc (by omega)]
      have ii := hp.inb B a e hb a0 a1
      refine Ev.eq (rd_loop p hp loop out n hn C hC body mk pa pe enc h1 h2 h3 hbody heq d (i + 1) _ _ _ (by omega) (by simp; omega) ii.1 ii.2) ?_
      have e1 : mny p (d + 1) B a e = bd p (fun x => bd (mny p d) fun l => pr (x :: l)) B a e := by
        show (if e = 0 ∨ e = 5 then bd p (fun x => bd (mny p d) fun l => pr (x :: l)) B a e else ([], a, e)) = _
        exact if_pos c
      rw [e1, bd_eq, bd_eq]
      simp [pr]
    · refine Ev.iteF (by simpa using c) (Ev.eq (Ev.now _) ?_)
      have e1 : mny p (d + 1) B a e = ([], a, e) := by
        show (if e = 0 ∨ e = 5 then bd p (fun x => bd (mny p d) fun l => pr (x :: l)) B a e else ([], a, e)) = _
        exact if_neg c
      rw [e1]
      simp
theorem count_range (a e : Int) : 0 ≤ (countR B a e).1 ∧ (countR B a e).1 ≤ 65535 := by
  have _ := hl
  have r := numE_range hb a e 2
  have p1 : (256 : Int) ^ Int.toNat 2 = 65536 := by decide
  rw [p1] at r
  exact ⟨r.1, by have := r.2; unfold countR; omega⟩
theorem kvs_ev (a e : Int) (h0 : 0 ≤ a) (h1 : a ≤ B.length) : Ev (fun k => reply_reader_kvs.f k B a e) (rowR kvR B a e) := by
  unfold reply_reader_kvs.f
  have i1 := (num_good 2).inb B a e hb h0 h1
  have r := count_range B hb hl a e
  refine Ev.bind (count_ev B hb hl a e h0 h1) ?_
  exact rd_loop B hb hl kvR kvR_good (fun k i acc a' e' => reply_reader_kvs.l0 k acc (countR B a e).1 i B a' e') (fun acc a e => (acc, a, e)) (countR B a e).1 r.2 1759218604441 (by omega) (fun k a e => reply_reader_kv.f k B a e)
    (fun r => ⟨r.1, r.2.1, r.2.2.1, r.2.2.2.1, r.2.2.2.2.1, r.2.2.2.2.2.1⟩) (fun r => r.2.2.2.2.2.2.1) (fun r => r.2.2.2.2.2.2.2) (fun x => (x.1.f0, x.1.f1, x.1.f2, x.1.f3, x.1.f4, x.1.f5, x.2.1, x.2.2)) (fun _ => rfl) (fun _ => rfl) (fun _ => rfl) (kv_ev B hb hl) (fun k i acc a e => rfl) (countR B a e).1.toNat 0 [] _ _ (Or.inr (by omega)) (by simp) i1.1 i1.2
theorem told_ev (a e : Int) (h0 : 0 ≤ a) (h1 : a ≤ B.length) : Ev (fun k => reply_reader_told.f k B a e) ((toldR B a e).1.f0, (toldR B a e).1.f1.f0, (toldR B a e).1.f1.f1, (toldR B a e).1.f1.f2, (toldR B a e).1.f2, (toldR B a e).1.f3, (toldR B a e).2.1, (toldR B a e).2.2) := by
  unfold reply_reader_told.f
  have i1 := small_good.inb B a e hb h0 h1
  refine Ev.bind (small_ev B hb hl a e h0 h1) ?_
  rw [toldR, bd_eq]
  generalize smallR B a e = x1 at *
  by_cases c1 : x1.1 = 1
  · refine Ev.iteT c1 ?_
    rw [if_pos c1]
    have i2 := (row_good kvR_good).inb B _ x1.2.2 hb i1.1 i1.2
    refine Ev.bind (kvs_ev B hb hl _ _ i1.1 i1.2) ?_
    rw [bd_eq]
    generalize rowR kvR B x1.2.1 x1.2.2 = x2 at *
    have i3 := numR_good.inb B _ x2.2.2 hb i2.1 i2.2
    refine Ev.bind (num_ev B hb hl _ _ i2.1 i2.2) ?_
    rw [bd_eq]
    generalize numR B x2.2.1 x2.2.2 = x3 at *
    exact Ev.bind (Flag_ev B hb hl _ _ i3.1 i3.2) (Ev.now _)
  refine Ev.iteF c1 ?_
  rw [if_neg c1]
  by_cases c2 : x1.1 = 2
  · refine Ev.iteT c2 ?_
    rw [if_pos c2]
    exact Ev.bind (kvs_ev B hb hl _ _ i1.1 i1.2) (Ev.now _)
  refine Ev.iteF c2 ?_
  rw [if_neg c2]
  by_cases c3 : x1.1 = 3
  · refine Ev.iteT c3 ?_
    rw [if_pos c3]
    have i2 := numR_good.inb B _ x1.2.2 hb i1.1 i1.2
    refine Ev.bind (num_ev B hb hl _ _ i1.1 i1.2) ?_
    rw [bd_eq]
    generalize numR B x1.2.1 x1.2.2 = x2 at *
    exact Ev.bind (kvs_ev B hb hl _ _ i2.1 i2.2) (Ev.now _)
  refine Ev.iteF c3 ?_
  rw [if_neg c3]
  exact Ev.now _
def outR (x : S33 × Int × Int) : Int × Int × Int × Int × (List (S79)) × Int × Bool × (List (S79)) × Int × Bool × (List (S27)) × Int × Int × Int × List Int × (List (List Int)) × Int × Int × Int × Int :=
  (x.1.f0, x.1.f1, x.1.f2, x.1.f3.f0, x.1.f3.f1.f0, x.1.f3.f1.f1, x.1.f3.f1.f2, x.1.f3.f2, x.1.f3.f3, x.1.f4, x.1.f5, x.1.f6, x.1.f7, x.1.f8, x.1.f9, x.1.f10, x.1.f11, x.1.f12, x.2.1, x.2.2)
theorem j2_ev (k0 v fl : Int) (c : Bool) (a e : Int) (h0 : 0 ≤ a) (h1 : a ≤ B.length) : Ev (fun k => reply_reader_reply.j2 k k0 c B a e k0 0 v 0 0 false 0 false 0 0 0 0 fl) (outR ((if c = true then keepR k0 v fl else restR k0 v fl) B a e)) := by
  refine Ev.step (fun k => by rw [reply_reader_reply.j2]) ?_
  have i1 := numR_good.inb B a e hb h0 h1
  have hc := (num_good 2).inb B a e hb h0 h1
  have hn := num_ev B hb hl a e h0 h1
  by_cases c1 : c = true
  · refine Ev.iteT c1 (Ev.bind hn ?_)
    rw [if_pos c1, keepR, bd_eq]
    generalize numR B a e = x1 at *
    have i2 := numR_good.inb B _ x1.2.2 hb i1.1 i1.2
    refine Ev.bind (num_ev B hb hl _ _ i1.1 i1.2) ?_
    rw [bd_eq]
    generalize numR B x1.2.1 x1.2.2 = x2 at *
    exact Ev.bind (Flag_ev B hb hl _ _ i2.1 i2.2) (Ev.now _)
  refine Ev.iteF c1 ?_
  rw [if_neg c1, restR]
  by_cases c9 : k0 = 9
  · refine Ev.iteT c9 (Ev.bind hn ?_)
    rw [if_pos c9, bd_eq]
    generalize numR B a e = x1 at *
    have i2 := numR_good.inb B _ x1.2.2 hb i1.1 i1.2
    refine Ev.bind (num_ev B hb hl _ _ i1.1 i1.2) ?_
    rw [bd_eq]
    generalize numR B x1.2.1 x1.2.2 = x2 at *
    have i3 := numR_good.inb B _ x2.2.2 hb i2.1 i2.2
    refine Ev.bind (num_ev B hb hl _ _ i2.1 i2.2) ?_
    rw [bd_eq]
    generalize numR B x2.2.1 x2.2.2 = x3 at *
    have i4 := (num_good 2).inb B _ x3.2.2 hb i3.1 i3.2
    have r := count_range B hb hl x3.2.1 x3.2.2
    refine Ev.bind (count_ev B hb hl _ _ i3.1 i3.2) ?_
    exact rd_loop B hb hl textR textR_good (fun k i acc a e => reply_reader_reply.l1 k (countR B x3.2.1 x3.2.2).1 i B a e k0 0 v 0 0 false 0 false x1.1 x2.1 x3.1 acc 0 fl) (fun acc a e => outR (⟨k0, 0, v, zT, false, [], x1.1, x2.1, x3.1, [], acc, 0, fl⟩, a, e)) (countR B x3.2.1 x3.2.2).1 r.2 5864062014805 (by omega) (fun k a e => reply_reader_text.f k B a e)
      (fun r => r.1) (fun r => r.2.1) (fun r => r.2.2) (fun x => x) (fun _ => rfl) (fun _ => rfl) (fun _ => rfl) (text_ev B hb hl) (fun k i acc a e => rfl) (countR B x3.2.1 x3.2.2).1.toNat 0 [] _ _ (Or.inr (by omega)) (by simp) i4.1 i4.2
  refine Ev.iteF c9 ?_
  rw [if_neg c9]
  by_cases c10 : k0 = 10
  · refine Ev.iteT c10 (Ev.bind (count_ev B hb hl _ _ h0 h1) ?_)
    rw [if_pos c10]
    have r := count_range B hb hl a e
    exact rd_loop B hb hl numR numR_good (fun k i acc a' e' => reply_reader_reply.l2 k (countR B a e).1 i B a' e' k0 0 v 0 0 false 0 false 0 0 0 acc 0 fl) (fun acc a e => outR (⟨k0, 0, v, zT, false, [], 0, 0, 0, acc, [], 0, fl⟩, a, e)) (countR B a e).1 r.2 17592186044416 (by omega) (fun k a e => reply_reader_num.f k B a e)
      (fun r => r.1) (fun r => r.2.1) (fun r => r.2.2) (fun x => x) (fun _ => rfl) (fun _ => rfl) (fun _ => rfl) (num_ev B hb hl) (fun k i acc a e => rfl) (countR B a e).1.toNat 0 [] _ _ (Or.inr (by omega)) (by simp) hc.1 hc.2
  refine Ev.iteF c10 ?_
  rw [if_neg c10]
  by_cases c11 : k0 = 11
  · rw [if_pos c11]
    exact Ev.iteT c11 (Ev.bind hn (Ev.now _))
  refine Ev.iteF c11 ?_
  rw [if_neg c11]
  by_cases c14 : k0 = 14
  · rw [if_pos c14]
    refine Ev.iteT c14 (Ev.bind (Num_ev B hb hl a e 4 h0 h1 (by omega)) (Ev.eq (Ev.now _) ?_))
    have r := numE_range hb a e 4
    have p1 : (256 : Int) ^ Int.toNat 4 = 4294967296 := by decide
    rw [p1] at r
    rw [Int.emod_eq_of_lt r.1 r.2]
    rfl
  refine Ev.iteF c14 ?_
  rw [if_neg c14]
  by_cases c15 : k0 = 15
  · rw [if_pos c15]
    refine Ev.iteT c15 (Ev.bind hn ?_)
    rw [bd_eq]
    generalize numR B a e = x1 at *
    exact Ev.bind (num_ev B hb hl _ _ i1.1 i1.2) (Ev.now _)
  rw [if_neg c15]
  exact Ev.iteF c15 (Ev.now _)
theorem j0_ev (k0 v fl : Int) (c : Bool) (a e : Int) (h0 : 0 ≤ a) (h1 : a ≤ B.length) (hc : c = decide (k0 = 1 ∨ k0 = 2 ∨ k0 = 3)) : Ev (fun k => reply_reader_reply.j0 k k0 c B a e k0 0 v 0 0 false 0 false 0 0 0 0 fl) (outR (bodyR k0 v fl B a e)) := by
  refine Ev.step (fun k => by rw [reply_reader_reply.j0]) ?_
  rw [bodyR]
  by_cases c1 : k0 = 1 ∨ k0 = 2 ∨ k0 = 3
  · rw [if_pos c1]
    refine Ev.iteT (by rw [hc]; simpa using c1) (Ev.bind (told_ev B hb hl a e h0 h1) (Ev.now _))
  rw [if_neg c1]
  refine Ev.iteF (by rw [hc]; simpa using c1) ?_
  by_cases c4 : k0 = 4
  · rw [if_pos c4, allR, bd_eq]
    have i1 := flagR_good.inb B a e hb h0 h1
    refine Ev.iteT c4 (Ev.bind (Flag_ev B hb hl a e h0 h1) ?_)
    generalize hx : flagR B a e = x1 at *
    have hx' : flagE B a e = x1 := hx
    rw [hx']
    have i2 := (num_good 2).inb B _ x1.2.2 hb i1.1 i1.2
    have r := count_range B hb hl x1.2.1 x1.2.2
    refine Ev.bind (count_ev B hb hl _ _ i1.1 i1.2) ?_
    exact rd_loop B hb hl toldR toldR_good (fun k i acc a' e' => reply_reader_reply.l0 k (countR B x1.2.1 x1.2.2).1 i B a' e' k0 0 v 0 0 false 0 x1.1 acc 0 0 0 0 fl) (fun acc a e => outR (⟨k0, 0, v, zT, x1.1, acc, 0, 0, 0, [], [], 0, fl⟩, a, e)) (countR B x1.2.1 x1.2.2).1 r.2 1759218604441 (by omega) (fun k a e => reply_reader_told.f k B a e)
      (fun r => ⟨r.1, ⟨r.2.1, r.2.2.1, r.2.2.2.1⟩, r.2.2.2.2.1, r.2.2.2.2.2.1⟩) (fun r => r.2.2.2.2.2.2.1) (fun r => r.2.2.2.2.2.2.2) (fun x => (x.1.f0, x.1.f1.f0, x.1.f1.f1, x.1.f1.f2, x.1.f2, x.1.f3, x.2.1, x.2.2)) (fun _ => rfl) (fun _ => rfl) (fun _ => rfl) (told_ev B hb hl) (fun k i acc a e => rfl) (countR B x1.2.1 x1.2.2).1.toNat 0 [] _ _ (Or.inr (by omega)) (by simp) i2.1 i2.2
  rw [if_neg c4]
  refine Ev.iteF c4 ?_
  by_cases c6 : k0 = 6
  · rw [if_pos c6, bd_eq]
    have i1 := numR_good.inb B a e hb h0 h1
    refine Ev.iteT c6 (Ev.bind (num_ev B hb hl a e h0 h1) ?_)
    generalize numR B a e = x1 at *
    exact Ev.bind (num_ev B hb hl _ _ i1.1 i1.2) (Ev.now _)
  rw [if_neg c6]
  refine Ev.iteF c6 ?_
  by_cases c8 : k0 = 8
  · refine Ev.iteT c8 (Ev.eq (j2_ev B hb hl k0 v fl _ a e h0 h1) ?_)
    rw [if_pos (by simpa using c8), if_pos (Or.inl c8)]
  · refine Ev.iteF c8 (Ev.eq (j2_ev B hb hl k0 v fl _ a e h0 h1) ?_)
    by_cases c13 : k0 = 13
    · rw [if_pos (by simpa using c13), if_pos (Or.inr c13)]
    · rw [if_neg (by simpa using c13), if_neg (by omega)]
theorem reply_ev (a e : Int) (h0 : 0 ≤ a) (h1 : a ≤ B.length) : Ev (fun k => reply_reader_reply.f k B a e) (outR (replyR B a e)) := by
  unfold reply_reader_reply.f
  have i1 := small_good.inb B a e hb h0 h1
  refine Ev.bind (small_ev B hb hl a e h0 h1) ?_
  rw [replyR, bd_eq]
  generalize smallR B a e = x1 at *
  have i2 := small_good.inb B _ x1.2.2 hb i1.1 i1.2
  refine Ev.bind (small_ev B hb hl _ _ i1.1 i1.2) ?_
  rw [bd_eq]
  generalize smallR B x1.2.1 x1.2.2 = x2 at *
  have i3 := numR_good.inb B _ x2.2.2 hb i2.1 i2.2
  refine Ev.bind (num_ev B hb hl _ _ i2.1 i2.2) ?_
  rw [bd_eq]
  generalize numR B x2.2.1 x2.2.2 = x3 at *
  have i4 := numR_good.inb B _ x3.2.2 hb i3.1 i3.2
  refine Ev.bind (num_ev B hb hl _ _ i3.1 i3.2) ?_
  rw [bd_eq]
  generalize numR B x3.2.1 x3.2.2 = x4 at *
  by_cases c : x2.1 = 0
  · rw [if_pos c, c]
    refine Ev.iteT rfl ?_
    by_cases d1 : x1.1 = 1
    · exact Ev.iteT d1 (j0_ev B hb hl _ _ _ _ _ _ i4.1 i4.2 (by simp [d1]))
    refine Ev.iteF d1 ?_
    by_cases d2 : x1.1 = 2
    · exact Ev.iteT d2 (j0_ev B hb hl _ _ _ _ _ _ i4.1 i4.2 (by simp [d2]))
    refine Ev.iteF d2 (j0_ev B hb hl _ _ _ _ _ _ i4.1 i4.2 ?_)
    rw [Bool.eq_iff_iff]; simp [d1, d2]
  · rw [if_neg c]
    exact Ev.iteF c (Ev.now _)
end
end Go.Proofs.Ytlhjdmpclfhoeaa.RepE
