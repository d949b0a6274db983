/- How much a reader of replies reads, and a writer writes, at most; how many Told's a reply's bytes hold. -/
import Derived.Test.YtlhjdmpclfhoeaaRepSReplyCuts
set_option linter.unusedSimpArgs false
namespace Go.Proofs.Ytlhjdmpclfhoeaa.RepC
open Go.RowKit Go.Proofs.YtlhjdmpclfhoeaaW.PrintWords Go.Proofs.YtlhjdmpclfhoeaaW.PrintLast Go.Proofs.YtlhjdmpclfhoeaaW.PrintMore Go.Proofs.Ytlhjdmpclfhoeaa.PK Go.Proofs.Ytlhjdmpclfhoeaa.Base Go.Proofs.Ytlhjdmpclfhoeaa.Oct Go.Proofs.Ytlhjdmpclfhoeaa.RdE Go.Proofs.Ytlhjdmpclfhoeaa.Rep Go.Proofs.Ytlhjdmpclfhoeaa.RepR Go.Proofs.Ytlhjdmpclfhoeaa.RepS
def Cap {α : Type} (p : R α) (P : α → Prop) : Prop := ∀ (B : List Int) (a e : Int), Bytes B → P (p B a e).1
theorem Cap.bd {α β : Type} {p : R α} {f : α → R β} {P : α → Prop} {Q : β → Prop} (hp : Cap p P) (hf : ∀ v, P v → Cap (f v) Q) : Cap (RepR.bd p f) Q := fun B a e hb => hf _ (hp B a e hb) B _ _ hb
theorem Cap.pr {α : Type} {v : α} {P : α → Prop} (h : P v) : Cap (RepR.pr v) P := fun _ _ _ _ => h
theorem Cap.top {α : Type} (p : R α) : Cap p (fun _ => True) := fun _ _ _ _ => trivial
theorem Cap.ite {α : Type} {c : Prop} [Decidable c] {p q : R α} {P : α → Prop} (hp : Cap p P) (hq : Cap q P) : Cap (if c then p else q) P := by
  by_cases h : c
  · rw [if_pos h]; exact hp
  · rw [if_neg h]; exact hq
theorem mny_cap {α : Type} (p : R α) : ∀ n, Cap (mny p n) (fun l => l.length ≤ n)
  | 0 => fun _ _ _ _ => Nat.le_refl _
  | n + 1 => fun B a e hb => by
    show (if e = 0 ∨ e = 5 then bd p (fun x => bd (mny p n) fun l => pr (x :: l)) B a e else ([], a, e)).1.length ≤ n + 1
    by_cases c : e = 0 ∨ e = 5
    · rw [if_pos c]
      exact Nat.succ_le_succ (mny_cap p n B _ _ hb)
    · rw [if_neg c]; exact Nat.zero_le _
theorem row_cap {α : Type} (p : R α) : Cap (rowR p) (fun l => l.length ≤ 65535) := by
  refine Cap.bd (P := fun n => n.toNat ≤ 65535) (fun B a e hb => ?_) fun n hn B a e hb => Nat.le_trans (mny_cap p _ B a e hb) hn
  have r := numE_range hb a e 2
  have p1 : (256 : Int) ^ Int.toNat 2 = 65536 := by decide
  rw [p1] at r
  have := r.2
  show (numE B a e 2).1.toNat ≤ 65535
  omega
def CapT (t : S27) : Prop := t.f1.f0.length ≤ 65535 ∧ t.f2.length ≤ 65535
theorem told_cap : Cap toldR CapT := by
  refine (Cap.top smallR).bd fun k _ => Cap.ite ?_ (Cap.ite ?_ (Cap.ite ?_ (Cap.pr (by simp [CapT]))))
  · exact (row_cap kvR).bd fun l hl => (Cap.top numR).bd fun _ _ => (Cap.top flagR).bd fun _ _ => Cap.pr ⟨hl, by simp⟩
  · exact (row_cap kvR).bd fun l hl => Cap.pr ⟨by simp, hl⟩
  · exact (Cap.top numR).bd fun _ _ => (row_cap kvR).bd fun l hl => Cap.pr ⟨by simp, hl⟩
def CapR (r : S33) : Prop := (0 ≤ r.f11 ∧ r.f11 < 4294967296) ∧ CapT r.f3
theorem capz : CapT zT := ⟨by simp [zT], by simp [zT]⟩
theorem hash_cap : Cap hashR (fun n => 0 ≤ n ∧ n < 4294967296) := fun B a e hb => by
  have r := numE_range hb a e 4
  have p1 : (256 : Int) ^ Int.toNat 4 = 4294967296 := by decide
  rw [p1] at r
  exact r
theorem rest_cap (k v fl : Int) : Cap (restR k v fl) CapR := by
  refine Cap.ite ?_ (Cap.ite ?_ (Cap.ite ?_ (Cap.ite ?_ (Cap.ite ?_ (Cap.pr ⟨by simp, capz⟩)))))
  · exact (Cap.top numR).bd fun _ _ => (Cap.top numR).bd fun _ _ => (Cap.top numR).bd fun _ _ => (Cap.top (rowR textR)).bd fun _ _ => Cap.pr ⟨by simp, capz⟩
  · exact (Cap.top (rowR numR)).bd fun _ _ => Cap.pr ⟨by simp, capz⟩
  · exact (Cap.top numR).bd fun _ _ => Cap.pr ⟨by simp, capz⟩
  · exact hash_cap.bd fun _ h => Cap.pr ⟨h, capz⟩
  · exact (Cap.top numR).bd fun _ _ => (Cap.top numR).bd fun _ _ => Cap.pr ⟨by simp, capz⟩
theorem body_cap (k v fl : Int) : Cap (bodyR k v fl) CapR := by
  refine Cap.ite ?_ (Cap.ite ?_ (Cap.ite ?_ (Cap.ite ?_ (rest_cap k v fl))))
  · exact told_cap.bd fun _ h => Cap.pr ⟨by simp, h⟩
  · exact (Cap.top flagR).bd fun _ _ => (Cap.top (rowR toldR)).bd fun _ _ => Cap.pr ⟨by simp, capz⟩
  · exact (Cap.top numR).bd fun _ _ => (Cap.top numR).bd fun _ _ => Cap.pr ⟨by simp, capz⟩
  · exact (Cap.top numR).bd fun _ _ => (Cap.top numR).bd fun _ _ => (Cap.top flagR).bd fun _ _ => Cap.pr ⟨by simp, capz⟩
theorem reply_cap : Cap replyR CapR := by
  refine (Cap.top smallR).bd fun k _ => (Cap.top smallR).bd fun e _ => (Cap.top numR).bd fun v _ => (Cap.top numR).bd fun fl _ => Cap.ite (body_cap k v fl) (Cap.pr ⟨by simp, capz⟩)
def cntR : R Int := bd smallR fun k => bd smallR fun e => bd numR fun _ => bd numR fun _ => if e = 0 then (if k = 1 ∨ k = 2 ∨ k = 3 then pr 0 else if k = 4 then bd flagR fun _ => countR else pr 0) else pr 0
theorem cnt_good : RepR.Good cntR := small_good.bd fun _ => small_good.bd fun _ => numR_good.bd fun _ => numR_good.bd fun _ => RepR.Good.ite (RepR.Good.ite (RepR.Good.pr _) (RepR.Good.ite (flagR_good.bd fun _ => num_good 2) (RepR.Good.pr _))) (RepR.Good.pr _)
theorem mny_full {α : Type} {p : R α} (hp : RepR.Good p) : ∀ (n : Nat) (B : List Int) (a e : Int), (mny p n B a e).2.2 = 0 → (mny p n B a e).1.length = n
  | 0, _, _, _, _ => rfl
  | n + 1, B, a, e, h => by
    have e1 : mny p (n + 1) B a e = (if e = 0 ∨ e = 5 then bd p (fun x => bd (mny p n) fun l => pr (x :: l)) B a e else ([], a, e)) := rfl
    rw [e1] at h ⊢
    by_cases c : e = 0 ∨ e = 5
    · rw [if_pos c] at h ⊢
      exact congrArg (· + 1) (mny_full hp n B _ _ h)
    · rw [if_neg c] at h
      exact absurd (Or.inl h) c
theorem rest_all (k v fl : Int) (B : List Int) (a e : Int) : (restR k v fl B a e).1.f5 = [] := by
  unfold restR
  repeat' split
  all_goals rfl
theorem all_le (B : List Int) (hb : Bytes B) (a e : Int) : (replyR B a e).1.f5.length ≤ (cntR B a e).1.toNat ∧ ((replyR B a e).2.2 = 0 → (replyR B a e).1.f5.length = (cntR B a e).1.toNat) := by
  have key : ∀ (k e1 v fl a e : Int), ((if e1 = 0 then bodyR k v fl else pr ⟨k, e1, v, zT, false, [], 0, 0, 0, [], [], 0, fl⟩ : R S33) B a e).1.f5.length ≤ ((if e1 = 0 then (if k = 1 ∨ k = 2 ∨ k = 3 then pr 0 else if k = 4 then bd flagR fun _ => countR else pr 0) else pr 0 : R Int) B a e).1.toNat ∧
      (((if e1 = 0 then bodyR k v fl else pr ⟨k, e1, v, zT, false, [], 0, 0, 0, [], [], 0, fl⟩ : R S33) B a e).2.2 = 0 → ((if e1 = 0 then bodyR k v fl else pr ⟨k, e1, v, zT, false, [], 0, 0, 0, [], [], 0, fl⟩ : R S33) B a e).1.f5.length = ((if e1 = 0 then (if k = 1 ∨ k = 2 ∨ k = 3 then pr 0 else if k = 4 then bd flagR fun _ => countR else pr 0) else pr 0 : R Int) B a e).1.toNat) := by
    intro k e1 v fl a e
    by_cases c : e1 = 0
    · rw [if_pos c, if_pos c]
      unfold bodyR
      by_cases c1 : k = 1 ∨ k = 2 ∨ k = 3
      · rw [if_pos c1, if_pos c1]
        exact ⟨Nat.le_refl _, fun _ => rfl⟩
      rw [if_neg c1, if_neg c1]
      by_cases c4 : k = 4
      · rw [if_pos c4, if_pos c4]
        exact ⟨mny_cap toldR _ B _ _ hb, fun h => mny_full toldR_good _ B _ _ h⟩
      rw [if_neg c4, if_neg c4]
      have z : ∀ (p : R S33), (p B a e).1.f5 = [] → (p B a e).1.f5.length ≤ ((RepR.pr 0 : R Int) B a e).1.toNat ∧ ((p B a e).2.2 = 0 → (p B a e).1.f5.length = ((RepR.pr 0 : R Int) B a e).1.toNat) := fun p hp => by rw [hp]; exact ⟨Nat.le_refl _, fun _ => rfl⟩
      by_cases c6 : k = 6
      · rw [if_pos c6]
        exact z _ rfl
      rw [if_neg c6]
      by_cases c8 : k = 8 ∨ k = 13
      · rw [if_pos c8]
        exact z _ rfl
      rw [if_neg c8]
      exact z _ (rest_all k v fl B a e)
    · rw [if_neg c, if_neg c]
      exact ⟨Nat.le_refl _, fun _ => rfl⟩
  exact key _ _ _ _ _ _
theorem cnt_err (B : List Int) (a e : Int) (h : (cntR B a e).2.2 ≠ 0) : (cntR B a e).1 = 0 := by
  have c0 : ∀ (a e : Int), (countR B a e).2.2 ≠ 0 → (countR B a e).1 = 0 := by
    intro a e h
    unfold countR numE at h ⊢
    by_cases he : e = 0
    · rw [if_pos he] at h ⊢
      by_cases hg : (getE B a 2).2 = 0
      · rw [if_pos hg] at h; exact absurd rfl h
      · rw [if_neg hg]
    · rw [if_neg he]
  have key : ∀ (k e1 a e : Int), ((if e1 = 0 then (if k = 1 ∨ k = 2 ∨ k = 3 then pr 0 else if k = 4 then bd flagR fun _ => countR else pr 0) else pr 0 : R Int) B a e).2.2 ≠ 0 → ((if e1 = 0 then (if k = 1 ∨ k = 2 ∨ k = 3 then pr 0 else if k = 4 then bd flagR fun _ => countR else pr 0) else pr 0 : R Int) B a e).1 = 0 := by
    intro k e1 a e
    by_cases c : e1 = 0
    · rw [if_pos c]
      by_cases c1 : k = 1 ∨ k = 2 ∨ k = 3
      · rw [if_pos c1]; exact fun _ => rfl
      rw [if_neg c1]
      by_cases c4 : k = 4
      · rw [if_pos c4]; exact c0 _ _
      rw [if_neg c4]; exact fun _ => rfl
    · rw [if_neg c]; exact fun _ => rfl
  exact key _ _ _ _ h
theorem text_len (t : List Int) : (wText t).1.length ≤ 65537 := by
  unfold wText
  by_cases c : 65535 < t.length
  · rw [if_pos c]; simp
  · rw [if_neg c]; simp only [List.length_append, putB_length]; omega
theorem num_len (n : Int) : (wNum n).1.length = 8 := putB_length _ _
theorem flag_len (f : Bool) : (wFlag f).1.length = 1 := by cases f <;> rfl
theorem many_len {α : Type} {f : α → W} {c : Nat} : ∀ (l : List α), (∀ x, (f x).1.length ≤ c) → (wMany f l).1.length ≤ l.length * c
  | [], _ => by simp [wMany]
  | x :: l, h => by
    have := many_len l h
    have := h x
    simp only [wMany, sq, List.length_append, List.length_cons, Nat.add_mul, Nat.one_mul]
    omega
theorem row_len {α : Type} {f : α → W} {c : Nat} (l : List α) (n : Nat) (hn : l.length ≤ n) (h : ∀ x, (f x).1.length ≤ c) : (wRow f l).1.length ≤ 2 + n * c := by
  unfold wRow
  by_cases d : 65535 < l.length
  · rw [if_pos d]; simp
  · rw [if_neg d]
    have := many_len l h
    have k : l.length * c ≤ n * c := Nat.mul_le_mul_right _ hn
    simp only [sq, wPut, List.length_append, putB_length]
    omega
theorem row_len' {α : Type} {f : α → W} {c : Nat} (l : List α) (h : ∀ x, (f x).1.length ≤ c) : (wRow f l).1.length ≤ 2 + 65535 * c := by
  by_cases d : 65535 < l.length
  · unfold wRow; rw [if_pos d]; simp
  · exact row_len l 65535 (by omega) h
theorem kv_len (x : S79) : (wKV x).1.length ≤ 131106 := by
  have := text_len x.f0
  have := text_len x.f1
  simp only [wKV, sq, List.length_append, num_len]
  omega
theorem told_len (t : S27) : (wTold t).1.length ≤ 8592031722 := by
  have h1 := row_len' t.f1.f0 kv_len
  have h2 := row_len' t.f2 kv_len
  unfold wTold
  simp only [sq, List.length_append, wSmall, List.length_singleton]
  split
  · simp only [List.length_append, num_len, flag_len]; omega
  · split
    · omega
    · split
      · simp only [List.length_append, num_len]; omega
      · simp
theorem reply_len (r : S33) (h : r.f5.length ≤ 50) : (wReply r).1.length ≤ 429601586200 := by
  have h1 := told_len r.f3
  have h2 := row_len r.f5 50 h told_len
  have h3 := row_len' r.f10 text_len
  have h4 := row_len' (f := wNum) (c := 8) r.f9 (fun x => by rw [num_len]; omega)
  have hb : (wBody r).1.length ≤ 429601586180 := by
    unfold wBody
    split
    · simp only [sq, List.length_append, List.length_nil]; omega
    split
    · simp only [sq, List.length_append, flag_len]; omega
    split
    · simp only [sq, List.length_append, num_len]; omega
    split
    · simp only [sq, List.length_append, num_len, flag_len]; omega
    split
    · simp only [sq, List.length_append, num_len]; omega
    split
    · omega
    split
    · rw [num_len]; omega
    split
    · simp only [wPut, putB_length]; omega
    split
    · simp only [sq, List.length_append, num_len]; omega
    · simp
  unfold wReply
  simp only [sq, List.length_append, num_len, wSmall, List.length_singleton, List.length_nil]
  split
  · omega
  · simp
theorem reply_pos (r : S33) : 18 ≤ (wReply r).1.length := by
  unfold wReply
  simp only [sq, List.length_append, num_len, wSmall, List.length_singleton, List.length_nil]
  omega
theorem small_bytes (n : Int) : Bytes (wSmall n).1 := fun x hx => by
  simp only [wSmall, List.mem_singleton] at hx
  omega
theorem flag_bytes (f : Bool) : Bytes (wFlag f).1 := by
  unfold wFlag
  split
  · exact small_bytes _
  · exact small_bytes _
theorem sq_bytes {x y : W} (hx : Bytes x.1) (hy : Bytes y.1) : Bytes (sq x y).1 := bytes_append.2 ⟨hx, hy⟩
theorem num_bytes (n : Int) : Bytes (wNum n).1 := putB_bytes _ _
theorem text_bytes {t : List Int} (h : Bytes t) : Bytes (wText t).1 := by
  unfold wText
  split
  · exact bytes_nil
  · exact bytes_append.2 ⟨putB_bytes _ _, h⟩
theorem many_bytes {α : Type} {f : α → W} : ∀ (l : List α), (∀ x ∈ l, Bytes (f x).1) → Bytes (wMany f l).1
  | [], _ => bytes_nil
  | x :: l, h => sq_bytes (h x (by simp)) (many_bytes l fun y hy => h y (by simp [hy]))
theorem row_bytes {α : Type} {f : α → W} (l : List α) (h : ∀ x ∈ l, Bytes (f x).1) : Bytes (wRow f l).1 := by
  unfold wRow
  split
  · exact bytes_nil
  · exact sq_bytes (putB_bytes _ _) (many_bytes l h)
theorem kv_bytes {x : S79} (h : OkKV x) : Bytes (wKV x).1 := sq_bytes (text_bytes h.1.1) (sq_bytes (text_bytes h.1.2) (sq_bytes (num_bytes _) (sq_bytes (num_bytes _) (sq_bytes (num_bytes _) (num_bytes _)))))
theorem told_bytes {t : S27} (h : OkT t) : Bytes (wTold t).1 := by
  refine sq_bytes (small_bytes _) ?_
  split
  · exact sq_bytes (row_bytes _ fun x hx => kv_bytes (h.1 x hx)) (sq_bytes (num_bytes _) (flag_bytes _))
  split
  · exact row_bytes _ fun x hx => kv_bytes (h.2.2.1 x hx)
  split
  · exact sq_bytes (num_bytes _) (row_bytes _ fun x hx => kv_bytes (h.2.2.1 x hx))
  · exact bytes_nil
theorem reply_bytes {r : S33} (h : OkR r) : Bytes (wReply r).1 := by
  refine sq_bytes (small_bytes _) (sq_bytes (small_bytes _) (sq_bytes (num_bytes _) (sq_bytes (num_bytes _) (sq_bytes bytes_nil ?_))))
  split
  · unfold wBody
    split
    · exact sq_bytes bytes_nil (told_bytes h.told)
    split
    · exact sq_bytes (flag_bytes _) (row_bytes _ fun t ht => told_bytes (h.all t ht))
    split
    · exact sq_bytes (num_bytes _) (num_bytes _)
    split
    · exact sq_bytes (num_bytes _) (sq_bytes (num_bytes _) (flag_bytes _))
    split
    · exact sq_bytes (num_bytes _) (sq_bytes (num_bytes _) (sq_bytes (num_bytes _) (row_bytes _ fun t ht => text_bytes (h.keys t ht))))
    split
    · exact row_bytes _ fun n _ => num_bytes n
    split
    · exact num_bytes _
    split
    · exact putB_bytes _ _
    split
    · exact sq_bytes (num_bytes _) (num_bytes _)
    · exact bytes_nil
  · exact bytes_nil
end Go.Proofs.Ytlhjdmpclfhoeaa.RepC
