/- What package reply's reader reads, as plain functions built of one another, and what is known of such. -/
import Derived.Test.YtlhjdmpclfhoeaaRepReplyCuts
import Derived.Test.YtlhjdmpclfhoeaaPKx11
import Derived.Test.YtlhjdmpclfhoeaaPKx12
import Derived.Test.YtlhjdmpclfhoeaaPKx14
import Derived.Test.YtlhjdmpclfhoeaaPKx15
import Derived.Test.YtlhjdmpclfhoeaaPKx16
import Derived.Test.YtlhjdmpclfhoeaaPKx17
set_option linter.unusedSimpArgs false
namespace Go.Proofs.Ytlhjdmpclfhoeaa.RepR
open Go.RowKit Go.Proofs.YtlhjdmpclfhoeaaW.PrintWords Go.Proofs.YtlhjdmpclfhoeaaW.PrintLast Go.Proofs.YtlhjdmpclfhoeaaW.PrintMore Go.Proofs.Ytlhjdmpclfhoeaa.PK Go.Proofs.Ytlhjdmpclfhoeaa.Base Go.Proofs.Ytlhjdmpclfhoeaa.Oct Go.Proofs.Ytlhjdmpclfhoeaa.RdE Go.Proofs.Ytlhjdmpclfhoeaa.Rep
abbrev R (α : Type) := List Int → Int → Int → α × Int × Int
def bd {α β : Type} (p : R α) (f : α → R β) : R β := fun B a e => f (p B a e).1 B (p B a e).2.1 (p B a e).2.2
def pr {α : Type} (v : α) : R α := fun _ a e => (v, a, e)
structure Good {α : Type} (p : R α) : Prop where
  stick : ∀ (B : List Int) (a e : Int), e ≠ 0 → (p B a e).2.2 ≠ 0
  mono : ∀ (B q : List Int) (a : Int) (v : α) (a' : Int), Bytes B → 0 ≤ a → a ≤ B.length → p B a 0 = (v, a', 0) → p (B ++ q) a 0 = (v, a', 0)
  inb : ∀ (B : List Int) (a e : Int), Bytes B → 0 ≤ a → a ≤ B.length → 0 ≤ (p B a e).2.1 ∧ (p B a e).2.1 ≤ B.length
theorem Good.pr {α : Type} (v : α) : Good (pr v) := ⟨fun _ _ _ h => h, fun _ _ _ _ _ _ _ _ h => h, fun _ _ _ _ h k => ⟨h, k⟩⟩
theorem Good.bd {α β : Type} {p : R α} {f : α → R β} (hp : Good p) (hf : ∀ v, Good (f v)) : Good (bd p f) := by
  refine ⟨fun B a e h => (hf _).stick _ _ _ (hp.stick _ _ _ h), fun B q a v a' hB h0 h1 h => ?_, fun B a e hB h0 h1 => ?_⟩
  · unfold RepR.bd at h ⊢
    rcases hq : p B a 0 with ⟨x, y, z⟩
    rw [hq] at h
    dsimp only at h
    by_cases hz : z = 0
    · subst hz
      rw [hp.mono B q a x y hB h0 h1 hq]
      have hi := hp.inb B a 0 hB h0 h1
      rw [hq] at hi
      exact (hf x).mono B q y v a' hB hi.1 hi.2 h
    · have := (hf x).stick B y z hz
      rw [h] at this
      exact absurd rfl this
  · have hi := hp.inb B a e hB h0 h1
    exact (hf _).inb _ _ _ hB hi.1 hi.2
theorem Good.ite {α : Type} {c : Prop} [Decidable c] {p q : R α} (hp : Good p) (hq : Good q) : Good (if c then p else q) := by
  by_cases h : c
  · rw [if_pos h]; exact hp
  · rw [if_neg h]; exact hq
def mny {α : Type} (p : R α) : Nat → R (List α)
  | 0 => pr []
  | n + 1 => fun B a e => if e = 0 ∨ e = 5 then bd p (fun x => bd (mny p n) fun l => pr (x :: l)) B a e else ([], a, e)
theorem mn_ok {α : Type} (p : R α) (n : Nat) (B : List Int) (a : Int) : mny p (n + 1) B a 0 = bd p (fun x => bd (mny p n) fun l => pr (x :: l)) B a 0 := by
  show (if (0 : Int) = 0 ∨ (0 : Int) = 5 then bd p (fun x => bd (mny p n) fun l => pr (x :: l)) B a 0 else ([], a, 0)) = _
  exact if_pos (Or.inl rfl)
theorem Good.mny {α : Type} {p : R α} (hp : Good p) : ∀ n, Good (mny p n)
  | 0 => Good.pr _
  | n + 1 => by
    have g : Good (RepR.bd p (fun x => RepR.bd (RepR.mny p n) fun l => RepR.pr (x :: l))) := hp.bd fun x => (Good.mny hp n).bd fun l => Good.pr _
    refine ⟨fun B a e h => ?_, fun B q a v a' hB h0 h1 h => ?_, fun B a e hB h0 h1 => ?_⟩
    · unfold RepR.mny
      split
      · exact g.stick B a e h
      · exact h
    · unfold RepR.mny at h ⊢
      rw [if_pos (Or.inl rfl)] at h ⊢
      exact g.mono B q a v a' hB h0 h1 h
    · unfold RepR.mny
      split
      · exact g.inb B a e hB h0 h1
      · exact ⟨h0, h1⟩
def At {α : Type} (p : R α) (t : List Int) (v : α) : Prop := ∀ pre post, p (pre ++ t ++ post) (pre.length : Int) 0 = (v, (pre.length : Int) + t.length, 0)
theorem At.pr {α : Type} (v : α) : At (pr v) [] v := fun pre post => by simp [RepR.pr]
theorem At.bd {α β : Type} {p : R α} {f : α → R β} {t u : List Int} {v : α} {w : β} (hp : At p t v) (hf : At (f v) u w) : At (bd p f) (t ++ u) w := by
  intro pre post
  have h1 := hp pre (u ++ post)
  have h2 := hf (pre ++ t) post
  have e : pre ++ (t ++ u) ++ post = pre ++ t ++ (u ++ post) := by simp
  have e2 : pre ++ t ++ u ++ post = pre ++ t ++ (u ++ post) := by simp
  unfold RepR.bd
  rw [e, h1]
  dsimp only
  rw [e2] at h2
  simp only [List.length_append, Int.natCast_add] at h2 ⊢
  rw [h2]
  simp only [Int.add_assoc]
theorem At.fin {α β : Type} {p : R α} {f : α → β} {t : List Int} {v : α} (hp : At p t v) : At (RepR.bd p fun x => RepR.pr (f x)) t (f v) := by
  have := hp.bd (f := fun x => RepR.pr (f x)) (At.pr (f v))
  rwa [List.append_nil] at this
theorem At.mny {α : Type} {p : R α} {f : α → W} : ∀ (l : List α), (∀ x ∈ l, At p (f x).1 x) → At (mny p l.length) (wMany f l).1 l
  | [], _ => At.pr []
  | x :: l, h => by
    have := (h x (by simp)).bd (f := fun x => RepR.bd (RepR.mny p l.length) fun l => RepR.pr (x :: l)) ((At.mny l (fun y hy => h y (by simp [hy]))).fin (f := fun l => x :: l))
    intro pre post
    exact (mn_ok p l.length _ _).trans (this pre post)
def smallR : R Int := fun B a e => numE B a e 1
def countR : R Int := fun B a e => numE B a e 2
def hashR : R Int := fun B a e => numE B a e 4
def numR : R Int := fun B a e => (wrap64 (numE B a e 8).1, (numE B a e 8).2)
def textR : R (List Int) := fun B a e => textE B a e 65535
def flagR : R Bool := flagE
theorem getE_mono {B q : List Int} {a sz : Int} (h : (getE B a sz).2 = 0) : getE (B ++ q) a sz = getE B a sz := by
  obtain ⟨h1, h2, h3, h4, h5⟩ := getE_ok h
  rw [h5]
  unfold getE
  rw [if_neg (by omega), if_neg (by simp only [List.length_append]; omega), List.drop_append_of_le_length (by omega), List.take_append_of_le_length (by simp only [List.length_drop]; omega)]
theorem num_good (sz : Int) : Good (fun B a e => numE B a e sz) := by
  refine ⟨fun B a e h => ?_, fun B q a v a' hB h0 h1 h => ?_, fun B a e hB h0 h1 => numE_at_le h0 h1⟩
  · unfold numE; rw [if_neg h]; exact h
  · unfold numE at h ⊢
    rw [if_pos rfl] at h ⊢
    by_cases hg : (getE B a sz).2 = 0
    · rw [if_pos hg] at h
      rw [getE_mono hg, if_pos hg]; exact h
    · rw [if_neg hg] at h
      simp only [Prod.mk.injEq] at h
      exact absurd h.2.2 hg
theorem numR_good : Good numR := by
  have g := (num_good 8).bd (f := fun x => RepR.pr (wrap64 x)) (fun v => Good.pr _)
  exact g
theorem textR_good : Good textR := by
  refine ⟨fun B a e h => ?_, fun B q a v a' hB h0 h1 h => ?_, fun B a e hB h0 h1 => textE_at_le hB h0 h1⟩
  · unfold textR textE; rw [if_neg h]; exact h
  · unfold textR textE at h ⊢
    rw [if_pos rfl] at h ⊢
    by_cases hg : (getE B a 2).2 = 0
    · rw [if_pos hg] at h
      rw [getE_mono hg, if_pos hg]
      by_cases c1 : 65535 < (getE B a 2).1
      · rw [if_pos c1] at h; simp at h
      · rw [if_neg c1] at h ⊢
        by_cases c2 : (B.length : Int) - (a + 2) < (getE B a 2).1
        · rw [if_pos c2] at h; simp at h
        · rw [if_neg c2] at h
          rw [if_neg (by simp only [List.length_append]; omega), List.drop_append_of_le_length (by have := getE_ok hg; omega), List.take_append_of_le_length (by have := getE2_pos hB (a := a); simp only [List.length_drop]; omega)]
          exact h
    · rw [if_neg hg] at h
      simp only [Prod.mk.injEq] at h
      exact absurd h.2.2 hg
theorem flagR_good : Good flagR := by
  refine ⟨fun B a e h => ?_, fun B q a v a' hB h0 h1 h => ?_, fun B a e hB h0 h1 => flagE_at_le h0 h1⟩
  · unfold flagR flagE; rw [if_neg h]; exact h
  · unfold flagR flagE at h ⊢
    rw [if_pos rfl] at h ⊢
    by_cases hc : a < (B.length : Int)
    · have e : rd (B ++ q) a = rd B a := by
        simp only [rd, List.getD_eq_getElem?_getD]
        rw [List.getElem?_append_left (by omega)]
      rw [if_pos hc] at h
      rw [if_pos (by simp only [List.length_append]; omega), e]
      exact h
    · rw [if_neg hc] at h; simp at h
theorem num_at {n : Int} {d : Nat} (h0 : 0 ≤ n) (h1 : n < 256 ^ d) (hd1 : 1 ≤ d) (hd8 : d ≤ 8) (sz : Int) (hs : sz = d) : At (fun B a e => numE B a e sz) (wPut n d).1 n := fun pre post => by
  simp only [wPut]
  rw [numE_at (p := pre) (q := post) (B := pre ++ putB n d ++ post) rfl h0 h1 hd1 hd8 _ sz rfl hs, putB_length]
theorem small_at {n : Int} (h : (wSmall n).2 = false) : At smallR (wSmall n).1 n := by
  simp only [wSmall, decide_eq_false_iff_not] at h
  have p1 : (256 : Int) ^ 1 = 256 := by decide
  have := num_at (n := n) (d := 1) (by omega) (by rw [p1]; omega) (by omega) (by omega) 1 rfl
  have e : (wPut n 1).1 = (wSmall n).1 := by simp [wPut, wSmall, putB]
  rw [e] at this
  exact this
theorem numR_at {n : Int} (h : -9223372036854775808 ≤ n ∧ n ≤ 9223372036854775807) : At numR (wNum n).1 n := by
  have t := (num_at (n := IntKind.u64.wrap n) (d := 8) (by rw [wrap_u64]; omega) (by rw [pow256_8, wrap_u64]; omega) (by omega) (by omega) 8 rfl).fin (f := fun x => wrap64 x)
  have e : wrap64 (IntKind.u64.wrap n) = n := by rw [wrap_u64]; unfold wrap64; omega
  rw [e] at t
  exact t
theorem flag_at (f : Bool) : At flagR (wFlag f).1 f := fun pre post => by
  have e : (wFlag f).1 = [if f then 1 else 0] := by cases f <;> simp [wFlag, wSmall]
  rw [e]
  exact flagE_at (p := pre) (q := post) rfl _ rfl
theorem text_at {t : List Int} (h : (wText t).2 = false) : At textR (wText t).1 t := by
  unfold wText at h ⊢
  by_cases c : 65535 < t.length
  · rw [if_pos c] at h; cases h
  · rw [if_neg c]
    intro pre post
    have := textE_at (B := pre ++ (putB (t.length : Int) 2 ++ t) ++ post) (p := pre) (t := t) (q := post) (by simp) (by omega) 65535 (by omega) _ rfl
    unfold textR
    rw [this]
    simp only [List.length_append, putB_length, Int.natCast_add, Int.add_assoc]
    rfl
def rowR {α : Type} (p : R α) : R (List α) := bd countR fun n => mny p n.toNat
theorem row_good {α : Type} {p : R α} (hp : Good p) : Good (rowR p) := (num_good 2).bd fun _ => hp.mny _
theorem row_at {α : Type} {p : R α} {f : α → W} {l : List α} (h : (wRow f l).2 = false) (hp : ∀ x ∈ l, (f x).2 = false → At p (f x).1 x) : At (rowR p) (wRow f l).1 l := by
  unfold wRow at h ⊢
  by_cases c : 65535 < l.length
  · rw [if_pos c] at h; cases h
  · rw [if_neg c] at h ⊢
    have p2 : (256 : Int) ^ 2 = 65536 := by decide
    have hm : ∀ (m : List α), (wMany f m).2 = false → ∀ x ∈ m, (f x).2 = false := by
      intro m
      induction m with
      | nil => intro _ x hx; cases hx
      | cons y m ih =>
        intro hw x hx
        simp only [wMany, sq, Bool.or_eq_false_iff] at hw
        rcases List.mem_cons.1 hx with rfl | hx
        · exact hw.1
        · exact ih hw.2 x hx
    simp only [sq, wPut, Bool.false_or] at h
    have t := (num_at (n := (l.length : Int)) (d := 2) (by omega) (by rw [p2]; omega) (by omega) (by omega) 2 rfl).bd (f := fun n => mny p n.toNat) (At.mny (p := p) (f := f) l (fun x hx => hp x hx (hm l h x hx)))
    exact t
def kvR : R S79 := bd textR fun k => bd textR fun v => bd numR fun c => bd numR fun m => bd numR fun n => bd numR fun l => pr ⟨k, v, c, m, n, l⟩
def toldR : R S27 := bd smallR fun k => if k = 1 then bd (rowR kvR) fun l => bd numR fun c => bd flagR fun m => pr ⟨k, ⟨l, c, m⟩, [], 0⟩ else if k = 2 then bd (rowR kvR) fun l => pr ⟨k, ⟨[], 0, false⟩, l, 0⟩ else if k = 3 then bd numR fun d => bd (rowR kvR) fun l => pr ⟨k, ⟨[], 0, false⟩, l, d⟩ else pr ⟨k, ⟨[], 0, false⟩, [], 0⟩
def zT : S27 := ⟨0, ⟨[], 0, false⟩, [], 0⟩
def restR (k v fl : Int) : R S33 :=
  if k = 9 then bd numR fun i => bd numR fun t => bd numR fun f => bd (rowR textR) fun l => pr ⟨k, 0, v, zT, false, [], i, t, f, [], l, 0, fl⟩
  else if k = 10 then bd (rowR numR) fun l => pr ⟨k, 0, v, zT, false, [], 0, 0, 0, l, [], 0, fl⟩
  else if k = 11 then bd numR fun i => pr ⟨k, 0, v, zT, false, [], i, 0, 0, [], [], 0, fl⟩
  else if k = 14 then bd hashR fun h => pr ⟨k, 0, v, zT, false, [], 0, 0, 0, [], [], h, fl⟩
  else if k = 15 then bd numR fun t => bd numR fun f => pr ⟨k, 0, v, zT, false, [], 0, t, f, [], [], 0, fl⟩
  else pr ⟨k, 0, v, zT, false, [], 0, 0, 0, [], [], 0, fl⟩
def allR (k v fl : Int) : R S33 := bd flagR fun d => bd (rowR toldR) fun l => pr ⟨k, 0, v, zT, d, l, 0, 0, 0, [], [], 0, fl⟩
def keepR (k v fl : Int) : R S33 := bd numR fun i => bd numR fun t => bd flagR fun d => pr ⟨k, 0, v, zT, d, [], i, t, 0, [], [], 0, fl⟩
def bodyR (k v fl : Int) : R S33 :=
  if k = 1 ∨ k = 2 ∨ k = 3 then bd toldR fun t => pr ⟨k, 0, v, t, false, [], 0, 0, 0, [], [], 0, fl⟩
  else if k = 4 then allR k v fl
  else if k = 6 then bd numR fun i => bd numR fun t => pr ⟨k, 0, v, zT, false, [], i, t, 0, [], [], 0, fl⟩
  else if k = 8 ∨ k = 13 then keepR k v fl
  else restR k v fl
def replyR : R S33 := bd smallR fun k => bd smallR fun e => bd numR fun v => bd numR fun fl => if e = 0 then bodyR k v fl else pr ⟨k, e, v, zT, false, [], 0, 0, 0, [], [], 0, fl⟩
theorem small_good : Good smallR := num_good 1
theorem kvR_good : Good kvR := textR_good.bd fun _ => textR_good.bd fun _ => numR_good.bd fun _ => numR_good.bd fun _ => numR_good.bd fun _ => numR_good.bd fun _ => Good.pr _
theorem toldR_good : Good toldR := small_good.bd fun _ => Good.ite ((row_good kvR_good).bd fun _ => numR_good.bd fun _ => flagR_good.bd fun _ => Good.pr _) (Good.ite ((row_good kvR_good).bd fun _ => Good.pr _) (Good.ite (numR_good.bd fun _ => (row_good kvR_good).bd fun _ => Good.pr _) (Good.pr _)))
theorem restR_good (k v fl : Int) : Good (restR k v fl) :=
  Good.ite (numR_good.bd fun _ => numR_good.bd fun _ => numR_good.bd fun _ => (row_good textR_good).bd fun _ => Good.pr _) (Good.ite ((row_good numR_good).bd fun _ => Good.pr _) (Good.ite (numR_good.bd fun _ => Good.pr _) (Good.ite ((num_good 4).bd fun _ => Good.pr _) (Good.ite (numR_good.bd fun _ => numR_good.bd fun _ => Good.pr _) (Good.pr _)))))
theorem bodyR_good (k v fl : Int) : Good (bodyR k v fl) :=
  Good.ite (toldR_good.bd fun _ => Good.pr _) (Good.ite (flagR_good.bd fun _ => (row_good toldR_good).bd fun _ => Good.pr _) (Good.ite (numR_good.bd fun _ => numR_good.bd fun _ => Good.pr _) (Good.ite (numR_good.bd fun _ => numR_good.bd fun _ => flagR_good.bd fun _ => Good.pr _) (restR_good k v fl))))
theorem replyR_good : Good replyR := small_good.bd fun _ => small_good.bd fun _ => numR_good.bd fun _ => numR_good.bd fun _ => Good.ite (bodyR_good _ _ _) (Good.pr _)
end Go.Proofs.Ytlhjdmpclfhoeaa.RepR
