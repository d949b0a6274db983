/- A meta that doesn't stand at its place never counts: the plain statement that is left of the law MetaPlaces. -/
import Derived.Test.YtfkihcdonddcoaaOctMetaPlaces
import Derived.Test.YtfkihcdonddcoaaMetMetaPlaces
import Derived.Test.YtfkihcdonddcoaaPLx15
namespace Go.Proofs.Ytfkihcdonddcoaa.Pure
open Go.RowKit Go.Proofs.YtfkihcdonddcoaaW.PrintWords Go.Proofs.YtfkihcdonddcoaaW.PrintLast Go.Proofs.YtfkihcdonddcoaaW.PrintMore Go.Proofs.Ytfkihcdonddcoaa.PL Go.Proofs.Ytfkihcdonddcoaa.Base Go.Proofs.Ytfkihcdonddcoaa.Oct Go.Proofs.Ytfkihcdonddcoaa.Met
section
variable (t r s z t' r' s' z' : Int)
theorem J1 (c : Bool) (x7 x9 x10 : List Int) (h : c = true ∨ (Int.tmod t 2 = 0 ∧ Ev (fun k => meta_Choose.f k x7 x10) ((t', r', s', z', 0) : MRes)) ∨ (Int.tmod t 2 ≠ 0 ∧ Ev (fun k => meta_Choose.f k x9 x7) ((t', r', s', z', 0) : MRes))) :
    Ev (fun k => terrierlaw05_MetaPlaces.j1 k x7 x9 x10 c t r s z t' r' s' z') true := by
  refine Ev.step (fun k => by rw [terrierlaw05_MetaPlaces.j1]) ?_
  cases c with
  | true => exact Ev.iteT rfl (Ev.now _)
  | false =>
    refine Ev.iteF (by decide) ?_
    rcases h with h | ⟨h1, h2⟩ | ⟨h1, h2⟩
    · cases h
    · exact Ev.iteT h1 (Ev.bind h2 (Ev.iteT rfl (Ev.eq (Ev.now _) (by simp))))
    · exact Ev.iteF h1 (Ev.bind h2 (Ev.iteT rfl (Ev.eq (Ev.now _) (by simp))))
theorem J0 (x7 : List Int) (x8 : Int) (x9 x10 : List Int) (h0 : Ev (fun k => meta_Choose.f k x9 x10) ((0, 0, 0, 0, 7) : MRes))
    (h : x8 = 0 → Int.tmod t' 2 = Int.tmod t 2 → (Int.tmod t 2 = 0 ∧ Ev (fun k => meta_Choose.f k x7 x10) ((t', r', s', z', 0) : MRes)) ∨ (Int.tmod t 2 ≠ 0 ∧ Ev (fun k => meta_Choose.f k x9 x7) ((t', r', s', z', 0) : MRes))) :
    Ev (fun k => terrierlaw05_MetaPlaces.j0 k x7 x8 x9 x10 t r s z t' r' s' z') true := by
  refine Ev.step (fun k => by rw [terrierlaw05_MetaPlaces.j0]) ?_
  refine Ev.bind h0 (Ev.iteT rfl ?_)
  by_cases c : x8 = 0
  · refine Ev.iteT c (J1 t r s z t' r' s' z' _ x7 x9 x10 ?_)
    by_cases d : Int.tmod t' 2 = Int.tmod t 2
    · exact Or.inr (h c d)
    · exact Or.inl (by simpa using d)
  · exact Ev.iteF c (J1 t r s z t' r' s' z' true x7 x9 x10 (Or.inl rfl))
end
theorem MetaPlaces : terrierlaw05_MetaPlaces.Pure := by
  intro t r s z t' r' s' z' h h'
  have ht := wf_u64.1 h.1
  have ht' := wf_u64.1 h'.1
  dsimp only at ht ht'
  refine Ev.rounds ?_
  unfold terrierlaw05_MetaPlaces.f
  refine Ev.bind lives_ev (Ev.iteT rfl ?_)
  have E := Encode_ev t r s z ht.1 (by omega)
  have E' := Encode_ev t' r' s' z' ht'.1 (by omega)
  by_cases hr : RightM r s z
  case neg =>
    rw [if_neg hr] at E
    exact Ev.bind E (Ev.bind E' (Ev.iteF (by decide) (Ev.bind (Right_ev t r s z) (Ev.eq (Ev.now _) (by simp [hr])))))
  rw [if_pos hr] at E
  have hf : Fit t r s z := ⟨ht.1, by omega, hr⟩
  obtain ⟨e0, he0, hz⟩ := zeros_dec
  have pt := par ht.1
  have pt' := par ht'.1
  by_cases hr' : RightM r' s' z'
  · rw [if_pos hr'] at E'
    have hf' : Fit t' r' s' z' := ⟨ht'.1, by omega, hr'⟩
    refine Ev.bind E (Ev.bind E' (Ev.iteT rfl (Ev.iteT (by decide) (Ev.bind0 rfl ?_))))
    by_cases cp : Int.tmod t 2 = 0
    · refine Ev.iteT cp (J0 t r s z t' r' s' z' _ _ _ _ (Ev.eq (Choose_ev _ _ _ _ hz (dec_enc hf)) ?_) (fun _ d => Or.inl ⟨cp, Ev.eq (Choose_ev _ _ _ _ (dec_enc hf') (dec_enc hf)) ?_⟩))
      · rw [pick_bad 0 _ _ he0, pick_far 1 _ _ (by dsimp only; omega)]
      · rw [pick_new 0 _ _ rfl (by dsimp only; omega) (fun x => by cases x), pick_far 1 _ _ (by dsimp only; omega)]
    · refine Ev.iteF cp (J0 t r s z t' r' s' z' _ _ _ _ (Ev.eq (Choose_ev _ _ _ _ (dec_enc hf) hz) ?_) (fun _ d => Or.inr ⟨cp, Ev.eq (Choose_ev _ _ _ _ (dec_enc hf) (dec_enc hf')) ?_⟩))
      · rw [pick_far 0 _ _ (by dsimp only; omega), pick_bad 1 _ _ he0]
      · rw [pick_far 0 _ _ (by dsimp only; omega), pick_new 1 _ _ rfl (by dsimp only; omega) (fun x => by cases x)]
  · rw [if_neg hr'] at E'
    refine Ev.bind E (Ev.bind E' (Ev.iteT rfl (Ev.iteT (by decide) (Ev.bind0 rfl ?_))))
    by_cases cp : Int.tmod t 2 = 0
    · refine Ev.iteT cp (J0 t r s z t' r' s' z' _ _ _ _ (Ev.eq (Choose_ev _ _ _ _ hz (dec_enc hf)) ?_) (fun x => by cases x))
      rw [pick_bad 0 _ _ he0, pick_far 1 _ _ (by dsimp only; omega)]
    · refine Ev.iteF cp (J0 t r s z t' r' s' z' _ _ _ _ (Ev.eq (Choose_ev _ _ _ _ (dec_enc hf) hz) ?_) (fun x => by cases x))
      rw [pick_far 0 _ _ (by dsimp only; omega), pick_bad 1 _ _ he0]
end Go.Proofs.Ytfkihcdonddcoaa.Pure
