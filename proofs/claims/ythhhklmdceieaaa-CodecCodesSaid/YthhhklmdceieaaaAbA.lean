/- A part of the proof of the seat's rows, said of the kit's own model: loops and small laws of rows. Conditions: as each theorem says. -/
import Derived.Test.YthhhklmdceieaaaAb9
namespace Go.Ab
open Go Go.RowKit
set_option linter.unusedVariables false
set_option linter.unusedSimpArgs false
theorem Sub.refl (s : St) : Sub s s := ⟨rfl, fun t x h => ⟨x, h, x.le_refl⟩, .refl _⟩
theorem Sub.trans {a b c : St} (h : Sub a b) (k : Sub b c) : Sub a c := ⟨k.n.trans h.n, fun t x hx => by
  obtain ⟨x0, h1, h2⟩ := k.fr t x hx
  obtain ⟨x1, h3, h4⟩ := h.fr t x0 h1
  exact ⟨x1, h3, fun m y hy => h2 m y (h4 m y hy)⟩, h.σ.trans k.σ⟩
theorem AWp.loopS {P : Program} {Q : Exit → St → Prop} {s : St} {c : Code} (I : Nat → St → Prop) {n : Nat} {s0 : St} (hs : Sub s s0) (h0 : I n s0) (round : ∀ n s, I n s → AWp P c (Then (fun s' => ∃ k s0, k < n ∧ Sub s' s0 ∧ I k s0) Q) s) : AWp P (.loop c) Q s :=
  AWp.loop (fun n s => ∃ s0, Sub s s0 ∧ I n s0) ⟨s0, hs, h0⟩ fun n s ⟨s0, h1, h2⟩ => ((round n s0 h2).mono fun e s' h => by
    cases e with
    | normal => obtain ⟨k, s0, a, b, c⟩ := h; exact ⟨k, a, s0, b, c⟩
    | _ => exact h).weak h1
def FrLe (f : Nat → Option AV) : List (Nat × AV) → Prop
  | [] => True
  | (t, x) :: r => (∃ x0, f t = some x0 ∧ x0.le x) ∧ FrLe f r
theorem FrLe.get {f : Nat → Option AV} : ∀ {l : List (Nat × AV)}, FrLe f l → ∀ {t : Nat} {x : AV}, frL l t = some x → ∃ x0, f t = some x0 ∧ x0.le x
  | [], _, t, x, h => by simp [frL] at h
  | (u, y) :: l, hl, t, x, h => by
    unfold frL at h
    simp only [List.find?_cons] at h
    by_cases e : u = t
    · subst e; simp at h; subst h; exact hl.1
    · have e' : (u == t) = false := by simp [e]
      simp only [e'] at h
      exact FrLe.get hl.2 h
theorem Sub.mk' {s : St} {n : Nat} {l : List (Nat × AV)} {σ : Sg} (hn : n = s.n) (hf : FrLe s.fr l) (hσ : SgLe s.σ σ) : Sub s ⟨n, frL l, σ⟩ := ⟨hn, fun t x h => hf.get h, hσ⟩
theorem AV.le_of_eq {x y : AV} (h : x = y) : x.le y := h ▸ x.le_refl
theorem AV.le_nil {o c s : Nat} : (AV.v (.slice none 0 0)).le (.own ⟨none, o, c, s⟩ []) := fun m y hv => by cases hv; exact .ownNil
theorem AV.le_nilRow {sz : Nat} : (AV.v (.slice none 0 0)).le (.row sz []) := fun m y hv => by cases hv; exact .rowNil
theorem own_le' {h : Hdr} {es : List (List AV)} {sz : Nat} (e : h.sz = sz) : (AV.own h es).le (.row sz es) := e ▸ own_le
theorem Free.nil {T : Hdr → Option Nat} {o c s : Nat} : Free T ⟨none, o, c, s⟩ := fun e => by cases e
theorem Free.of {T : Hdr → Option Nat} {h k : Hdr} {n : Nat} (hk : Free (tipSet T h n) k) : Free T k := fun e => by
  have := hk e
  unfold tipSet at this
  split at this
  · cases this
  · exact this
theorem SgLe.tip2 {f : Nat → Option (List AV)} {T : Hdr → Option Nat} {h k : Hdr} {n j : Nat} (hF : Free T h) : SgLe ⟨f, tipSet (tipSet T h n) k j⟩ ⟨f, tipSet T k j⟩ :=
  ⟨fun b cs hb => ⟨cs, hb, .refl _⟩, fun x i hx => by
    simp only [tipSet] at hx ⊢
    split at hx
    · rename_i e; rw [if_pos e]; exact .inr hx
    · rename_i e
      rw [if_neg e]
      by_cases e2 : x = h ∧ x.blk.isSome = true
      · have := hF (by rw [← e2.1]; exact e2.2)
        rw [e2.1, this] at hx; cases hx
      · rw [if_neg e2]; exact .inr hx⟩
theorem upd_upd (f : Nat → Option (List AV)) (b : Nat) (x y : List AV) : upd (upd f b x) b y = upd f b y := by
  funext k; by_cases e : k = b <;> simp [upd, e]
theorem upd_in {b c : Nat} (h : b ≠ c) (f : Nat → Option (List AV)) (x y z : List AV) : upd (upd (upd f b x) c y) b z = upd (upd f b z) c y := by
  funext k
  by_cases e : k = b
  · subst e; simp [upd, h]
  · simp [upd, e]
theorem SgLe.of_eq {a b : Sg} (h : a = b) : SgLe a b := h ▸ .refl a
def byts (l : List Int) : List (List AV) := l.map fun n => [.v (.int .u8 n)]
@[simp] theorem byts_len (l : List Int) : (byts l).length = l.length := by simp [byts]
theorem byts_append (l l' : List Int) : byts (l ++ l') = byts l ++ byts l' := by simp [byts]
theorem byts_cons (n : Int) (l : List Int) : byts (n :: l) = [.v (.int .u8 n)] :: byts l := rfl
end Go.Ab
