/- A reply is read from its bytes as it was; how much a reader reads, and a writer writes, at most. -/
import Derived.Test.YtlhjdmpclfhoeaaRepRReplyCuts
set_option linter.unusedSimpArgs false
namespace Go.Proofs.Ytlhjdmpclfhoeaa.RepS
open Go.RowKit Go.Proofs.YtlhjdmpclfhoeaaW.PrintWords Go.Proofs.YtlhjdmpclfhoeaaW.PrintLast Go.Proofs.YtlhjdmpclfhoeaaW.PrintMore Go.Proofs.Ytlhjdmpclfhoeaa.PK Go.Proofs.Ytlhjdmpclfhoeaa.Base Go.Proofs.Ytlhjdmpclfhoeaa.Oct Go.Proofs.Ytlhjdmpclfhoeaa.RdE Go.Proofs.Ytlhjdmpclfhoeaa.Rep Go.Proofs.Ytlhjdmpclfhoeaa.RepR
def I64 (n : Int) : Prop := -9223372036854775808 ≤ n ∧ n ≤ 9223372036854775807
def OkKV (x : S79) : Prop := (Bytes x.f0 ∧ Bytes x.f1) ∧ I64 x.f2 ∧ I64 x.f3 ∧ I64 x.f4 ∧ I64 x.f5
def OkT (t : S27) : Prop := (∀ x ∈ t.f1.f0, OkKV x) ∧ I64 t.f1.f1 ∧ (∀ x ∈ t.f2, OkKV x) ∧ I64 t.f3
structure OkR (r : S33) : Prop where
  rev : I64 r.f2
  told : OkT r.f3
  all : ∀ t ∈ r.f5, OkT t
  id : I64 r.f6
  ttl : I64 r.f7
  left : I64 r.f8
  ids : ∀ n ∈ r.f9, I64 n
  keys : ∀ k ∈ r.f10, Bytes k
  hash : 0 ≤ r.f11 ∧ r.f11 < 4294967296
  floor : I64 r.f12
theorem sq2 {x y : W} : (sq x y).2 = false ↔ x.2 = false ∧ y.2 = false := by simp [sq]
theorem kv_at {x : S79} (ok : OkKV x) (h : (wKV x).2 = false) : At kvR (wKV x).1 x := by
  simp only [wKV, sq2] at h
  exact (text_at h.1).bd ((text_at h.2.1).bd ((numR_at ok.2.1).bd ((numR_at ok.2.2.1).bd ((numR_at ok.2.2.2.1).bd (numR_at ok.2.2.2.2).fin))))
theorem told_at {t : S27} (ok : OkT t) (al : toldAloneB t = true) (h : (wTold t).2 = false) : At toldR (wTold t).1 t := by
  obtain ⟨k, ⟨l, c, m⟩, p, d⟩ := t
  obtain ⟨o1, o2, o3, o4⟩ := ok
  simp only [wTold, sq2] at h
  obtain ⟨h1, h2⟩ := h
  dsimp only at o1 o2 o3 o4 h1 h2
  unfold wTold
  by_cases c1 : k = 1
  · rw [if_pos c1] at h2
    simp only [sq2] at h2
    simp only [toldAloneB, c1] at al
    simp at al
    obtain ⟨rfl, rfl⟩ := al
    have hs := small_at h1
    simp only [if_pos c1]
    have := (row_at h2.1 fun x hx => kv_at (o1 x hx)).bd ((numR_at o2).bd (flag_at m).fin) (f := fun l => bd numR fun c => bd flagR fun m => pr (⟨k, ⟨l, c, m⟩, [], 0⟩ : S27))
    refine hs.bd ?_
    rw [if_pos c1]
    exact this
  rw [if_neg c1] at h2
  by_cases c2 : k = 2
  · rw [if_pos c2] at h2
    simp only [toldAloneB, c2] at al
    simp at al
    obtain ⟨⟨rfl, rfl, rfl⟩, rfl⟩ := al
    have hs := small_at h1
    simp only [if_neg c1, if_pos c2]
    have := (row_at h2 fun x hx => kv_at (o3 x hx)).fin (f := fun l => (⟨k, ⟨[], 0, false⟩, l, 0⟩ : S27))
    refine hs.bd ?_
    rw [if_neg c1, if_pos c2]
    exact this
  rw [if_neg c2] at h2
  by_cases c3 : k = 3
  · rw [if_pos c3] at h2
    simp only [sq2] at h2
    simp only [toldAloneB, c3] at al
    simp at al
    obtain ⟨rfl, rfl, rfl⟩ := al
    have hs := small_at h1
    simp only [if_neg c1, if_neg c2, if_pos c3]
    have := (numR_at o4).bd (f := fun d => bd (rowR kvR) fun l => pr (⟨k, ⟨[], 0, false⟩, l, d⟩ : S27)) (row_at h2.2 fun x hx => kv_at (o3 x hx)).fin
    refine hs.bd ?_
    rw [if_neg c1, if_neg c2, if_pos c3]
    exact this
  rw [if_neg c3] at h2
  cases h2
theorem noTold_zero {t : S27} (h : noToldB t = true) : t = zT := by
  obtain ⟨k, ⟨l, c, m⟩, p, d⟩ := t
  simp [noToldB] at h
  obtain ⟨rfl, rfl, rfl, rfl, rfl, rfl⟩ := h
  rfl
theorem body_at {r : S33} (ok : OkR r) (he : r.f1 = 0) (al : aloneB r = true) (h : (wBody r).2 = false) : At (bodyR r.f0 r.f2 r.f12) (wBody r).1 r := by
  obtain ⟨k, e, v, t, d, all, i, tt, l, ids, keys, hs, fl⟩ := r
  obtain ⟨_, ot, oa, oi, ott, ol, oids, _, oh, _⟩ := ok
  dsimp only at *
  subst he
  rw [wBody_eq] at h ⊢
  simp only [aloneB, if_true, Bool.and_eq_true, tailB] at al
  dsimp only at h ⊢
  obtain ⟨a1, a2⟩ := al
  unfold bodyR
  by_cases c1 : k = 1 ∨ k = 2 ∨ k = 3
  · rw [if_pos c1] at h ⊢
    rw [if_pos c1] at a2 ⊢
    simp only [sq2] at h
    have n4 : k ≠ 4 ∧ k ≠ 8 ∧ k ≠ 13 ∧ k ≠ 6 ∧ k ≠ 9 ∧ k ≠ 11 ∧ k ≠ 15 ∧ k ≠ 10 ∧ k ≠ 14 := by omega
    simp [n4] at a2
    obtain ⟨b1, rfl, rfl, rfl, rfl, rfl, rfl, rfl, rfl⟩ := a2
    have := (told_at ot b1 h.2).fin (f := fun t => (⟨k, 0, v, t, false, [], 0, 0, 0, [], [], 0, fl⟩ : S33))
    simpa only [sq, List.nil_append] using this
  rw [if_neg c1] at h ⊢
  rw [if_neg c1] at a2 ⊢
  by_cases c4 : k = 4
  · rw [if_pos c4] at h ⊢
    rw [if_pos c4]
    subst c4
    simp at a2
    obtain ⟨b1, rfl, rfl, rfl, rfl, rfl, rfl⟩ := a2
    rw [noTold_zero b1]
    simp only [sq2] at h
    have a3 : ∀ t ∈ all, toldAloneB t = true := by simpa using a1
    exact (flag_at d).bd (f := fun d => bd (rowR toldR) fun l => pr (⟨4, 0, v, zT, d, l, 0, 0, 0, [], [], 0, fl⟩ : S33)) (row_at h.2 fun x hx => told_at (oa x hx) (a3 x hx)).fin
  rw [if_neg c4] at h ⊢
  rw [if_neg c4]
  by_cases c6 : k = 6
  · rw [if_pos c6] at h ⊢
    rw [if_pos c6]
    subst c6
    simp at a2
    obtain ⟨b1, rfl, rfl, rfl, rfl, rfl, rfl⟩ := a2
    rw [noTold_zero b1]
    exact (numR_at oi).bd (f := fun i => bd numR fun t => pr (⟨6, 0, v, zT, false, [], i, t, 0, [], [], 0, fl⟩ : S33)) (numR_at ott).fin
  rw [if_neg c6] at h ⊢
  rw [if_neg c6]
  by_cases c8 : k = 8 ∨ k = 13
  · rw [if_pos c8] at h ⊢
    rw [if_pos c8]
    have n4 : k ≠ 4 ∧ k ≠ 9 ∧ k ≠ 15 ∧ k ≠ 10 ∧ k ≠ 14 := by omega
    have y8 : (k == 8 || k == 13) = true := by simpa using c8
    rcases c8 with rfl | rfl
    all_goals
      simp at a2
      obtain ⟨b1, rfl, rfl, rfl, rfl, rfl⟩ := a2
      rw [noTold_zero b1]
      exact (numR_at oi).bd (f := fun i => bd numR fun t => bd flagR fun d => pr (⟨_, 0, v, zT, d, [], i, t, 0, [], [], 0, fl⟩ : S33)) ((numR_at ott).bd (f := fun t => bd flagR fun d => pr (⟨_, 0, v, zT, d, [], i, t, 0, [], [], 0, fl⟩ : S33)) (flag_at d).fin)
  rw [if_neg c8] at h ⊢
  rw [if_neg c8]
  unfold wRest at h ⊢
  unfold restR
  dsimp only at h ⊢
  have y8 : k ≠ 8 ∧ k ≠ 13 := by omega
  by_cases c9 : k = 9
  · rw [if_pos c9] at h ⊢
    rw [if_pos c9]
    subst c9
    simp at a2
    obtain ⟨b1, rfl, rfl, rfl, rfl⟩ := a2
    rw [noTold_zero b1]
    simp only [sq2] at h
    exact (numR_at oi).bd (f := fun i => bd numR fun t => bd numR fun f => bd (rowR textR) fun l => pr (⟨9, 0, v, zT, false, [], i, t, f, [], l, 0, fl⟩ : S33)) ((numR_at ott).bd (f := fun t => bd numR fun f => bd (rowR textR) fun l => pr (⟨9, 0, v, zT, false, [], i, t, f, [], l, 0, fl⟩ : S33)) ((numR_at ol).bd (f := fun f => bd (rowR textR) fun l => pr (⟨9, 0, v, zT, false, [], i, tt, f, [], l, 0, fl⟩ : S33)) (row_at h.2.2.2 fun x _ => text_at).fin))
  rw [if_neg c9] at h ⊢
  rw [if_neg c9]
  by_cases c10 : k = 10
  · rw [if_pos c10] at h ⊢
    rw [if_pos c10]
    subst c10
    simp at a2
    obtain ⟨b1, rfl, rfl, rfl, rfl, rfl, rfl, rfl⟩ := a2
    rw [noTold_zero b1]
    exact (row_at h fun x hx _ => numR_at (oids x hx)).fin (f := fun l => (⟨10, 0, v, zT, false, [], 0, 0, 0, l, [], 0, fl⟩ : S33))
  rw [if_neg c10] at h ⊢
  rw [if_neg c10]
  by_cases c11 : k = 11
  · rw [if_pos c11]
    rw [if_pos c11]
    subst c11
    simp at a2
    obtain ⟨b1, rfl, rfl, rfl, rfl, rfl, rfl, rfl⟩ := a2
    rw [noTold_zero b1]
    exact (numR_at oi).fin (f := fun i => (⟨11, 0, v, zT, false, [], i, 0, 0, [], [], 0, fl⟩ : S33))
  rw [if_neg c11]
  rw [if_neg c11]
  by_cases c14 : k = 14
  · rw [if_pos c14]
    rw [if_pos c14]
    subst c14
    simp at a2
    obtain ⟨b1, rfl, rfl, rfl, rfl, rfl, rfl, rfl⟩ := a2
    rw [noTold_zero b1]
    have p4 : (256 : Int) ^ 4 = 4294967296 := by decide
    rw [wrap_u64_id (by omega) (by omega)]
    exact (num_at (d := 4) oh.1 (by rw [p4]; omega) (by omega) (by omega) 4 rfl).fin (p := hashR) (f := fun h => (⟨14, 0, v, zT, false, [], 0, 0, 0, [], [], h, fl⟩ : S33))
  rw [if_neg c14]
  rw [if_neg c14]
  by_cases c15 : k = 15
  · rw [if_pos c15]
    rw [if_pos c15]
    subst c15
    simp at a2
    obtain ⟨b1, rfl, rfl, rfl, rfl, rfl, rfl⟩ := a2
    rw [noTold_zero b1]
    exact (numR_at ott).bd (f := fun t => bd numR fun f => pr (⟨15, 0, v, zT, false, [], 0, t, f, [], [], 0, fl⟩ : S33)) (numR_at ol).fin
  rw [if_neg c15]
  rw [if_neg c15]
  have n4 : k ≠ 4 ∧ k ≠ 8 ∧ k ≠ 13 ∧ k ≠ 6 ∧ k ≠ 9 ∧ k ≠ 11 ∧ k ≠ 15 ∧ k ≠ 10 ∧ k ≠ 14 := by omega
  simp [n4] at a2
  obtain ⟨b1, rfl, rfl, rfl, rfl, rfl, rfl, rfl, rfl⟩ := a2
  rw [noTold_zero b1]
  exact At.pr _
theorem reply_at {r : S33} (ok : OkR r) (al : aloneB r = true) (h : (wReply r).2 = false) : At replyR (wReply r).1 r := by
  simp only [wReply, sq2] at h
  obtain ⟨h1, h2, _, _, h3, h4⟩ := h
  have e : (wReply r).1 = (wSmall r.f0).1 ++ ((wSmall r.f1).1 ++ ((wNum r.f2).1 ++ ((wNum r.f12).1 ++ (if r.f1 = 0 then wBody r else ([], false)).1))) := by simp [wReply, sq]
  rw [e]
  refine (small_at h1).bd ((small_at h2).bd ((numR_at ok.rev).bd ((numR_at ok.floor).bd ?_)))
  by_cases c : r.f1 = 0
  · rw [if_pos c] at h4 ⊢
    rw [if_pos c]
    exact body_at ok c al h4
  · rw [if_neg c]
    rw [if_neg c]
    obtain ⟨k, e, v, t, d, all, i, tt, l, ids, keys, hs, fl⟩ := r
    dsimp only at c
    simp [aloneB, tailB, c] at al
    obtain ⟨_, b1, rfl, rfl, rfl, rfl, rfl, rfl, rfl, rfl⟩ := al
    rw [noTold_zero b1]
    exact At.pr _
end Go.Proofs.Ytlhjdmpclfhoeaa.RepS
