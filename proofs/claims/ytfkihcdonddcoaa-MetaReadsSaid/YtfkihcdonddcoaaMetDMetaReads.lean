/- What any bytes are read as, in both packages: a meta's own bytes are that meta; all others have one and the same error. -/
import Derived.Test.YtfkihcdonddcoaaOctMetaReads
import Derived.Test.YtfkihcdonddcoaaCrcMetaReads
import Derived.Test.YtfkihcdonddcoaaSumMetaReads
import Derived.Test.YtfkihcdonddcoaaRdEMetaReads
import Derived.Test.YtfkihcdonddcoaaMetMetaReads
import Derived.Test.YtfkihcdonddcoaaMetRMetaReads
import Derived.Test.YtfkihcdonddcoaaPRx10
import Derived.Test.YtfkihcdonddcoaaPRx13
namespace Go.Proofs.Ytfkihcdonddcoaa.MetD
open Go.RowKit Go.Proofs.YtfkihcdonddcoaaW.PrintWords Go.Proofs.YtfkihcdonddcoaaW.PrintLast Go.Proofs.YtfkihcdonddcoaaW.PrintMore Go.Proofs.Ytfkihcdonddcoaa.PR Go.Proofs.Ytfkihcdonddcoaa.Base Go.Proofs.Ytfkihcdonddcoaa.Oct Go.Proofs.Ytfkihcdonddcoaa.Crc Go.Proofs.Ytfkihcdonddcoaa.Sum Go.Proofs.Ytfkihcdonddcoaa.RdE Go.Proofs.Ytfkihcdonddcoaa.Met Go.Proofs.Ytfkihcdonddcoaa.MetR

def errM (B : List Int) : Int := if B.length = 256 then (if (openB B).2 = 0 then 4 else (openB B).2) else 4
theorem open_cases (B : List Int) (h : B.length = 256) (h2 : (openB B).2 = 0) : openB B = (B.drop 4, 0) := by
  unfold openB at h2 ⊢
  rw [if_neg (by omega)] at h2 ⊢
  split
  · rfl
  · rename_i h3
    rw [if_neg h3] at h2
    cases h2
theorem dec' (B : List Int) (hb : Bytes B) (hl : B.length ≤ 140737488351232) (hno : ¬ ∃ t r s z, Fit t r s z ∧ B = metaE t r s z) : Ev (fun k => meta_Decode.f k B) ((0, 0, 0, 0, errM B) : MRes) := by
  by_cases c : (B.length : Int) = 256
  case neg =>
    refine Ev.eq (r := (0, 0, 0, 0, 4)) ?_ (by unfold errM; rw [if_neg (by omega)])
    unfold meta_Decode.f
    exact Ev.iteF c (Ev.now _)
  have hO := Open_ev B hb (by omega)
  by_cases h2 : (openB B).2 = 0
  case neg =>
    refine Ev.eq (r := (0, 0, 0, 0, (openB B).2)) ?_ (by unfold errM; rw [if_pos (by omega), if_neg h2])
    unfold meta_Decode.f
    exact Ev.iteT c (Ev.bind hO (Ev.iteF h2 (Ev.now _)))
  refine Ev.eq (r := (0, 0, 0, 0, 4)) ?_ (by unfold errM; rw [if_pos (by omega), if_pos h2])
  obtain ⟨res, hE, hc⟩ := dec B hb hl
  rw [open_cases B (by omega) h2] at hO
  have hR : Bytes ((B.drop 4).drop 1) := bytes_drop (bytes_drop hb 4) 1
  have hRl : ((B.drop 4).drop 1).length = 251 := by simp; omega
  generalize hRd : (B.drop 4).drop 1 = R at hR hRl
  rcases h1 : numE R 0 0 8 with ⟨v1, a1, e1⟩
  have E1 := Num_ev R hR (by omega) 0 0 8 (by omega) (by omega) (by omega)
  have r1 := numE_at_le (B := R) (a := 0) (e := 0) (sz := 8) (by omega) (by omega)
  have g1 := numE_range hR 0 0 8
  rw [h1] at E1 r1 g1
  rcases h2 : bytesE R a1 e1 5 with ⟨x, a2, e2⟩
  have E2 := Bytes_eq R hR (by omega) a1 e1 5 r1.1 r1.2 (by omega)
  have r2 := bytesE_at_le (B := R) (a := a1) (e := e1) (n := 5) r1.1 r1.2
  rw [h2] at E2 r2
  rcases h3 : numE R a2 e2 4 with ⟨v3, a3, e3⟩
  have E3 := Num_ev R hR (by omega) a2 e2 4 r2.1 r2.2 (by omega)
  have r3 := numE_at_le (B := R) (a := a2) (e := e2) (sz := 4) r2.1 r2.2
  have g3 := numE_range hR a2 e2 4
  rw [h3] at E3 r3 g3
  rcases h4 : numE R a3 e3 4 with ⟨v4, a4, e4⟩
  have E4 := Num_ev R hR (by omega) a3 e3 4 r3.1 r3.2 (by omega)
  have r4 := numE_at_le (B := R) (a := a3) (e := e3) (sz := 4) r3.1 r3.2
  have g4 := numE_range hR a3 e3 4
  rw [h4] at E4 r4 g4
  rcases h5 : numE R a4 e4 4 with ⟨v5, a5, e5⟩
  have E5 := Num_ev R hR (by omega) a4 e4 4 r4.1 r4.2 (by omega)
  have g5 := numE_range hR a4 e4 4
  rw [h5] at E5 g5
  have p8 : (256 : Int) ^ (Int.toNat 8) = 18446744073709551616 := by decide
  have p4 : (256 : Int) ^ (Int.toNat 4) = 4294967296 := by decide
  rw [p8] at g1
  rw [p4] at g3 g4 g5
  have w3 : wrap64 v3 = v3 := wrap64_id (by have := g3.1; dsimp only at this; omega) (by have := g3.2; dsimp only at this; omega)
  have w4 : wrap64 v4 = v4 := wrap64_id (by have := g4.1; dsimp only at this; omega) (by have := g4.2; dsimp only at this; omega)
  have w5 : wrap64 v5 = v5 := wrap64_id (by have := g5.1; dsimp only at this; omega) (by have := g5.2; dsimp only at this; omega)
  unfold meta_Decode.f
  refine Ev.iteT c (Ev.bind hO (Ev.iteT rfl (Ev.iteT (by simp; omega) (Ev.bind0 (New_eq _ (by simp; omega)) ?_))))
  simp only [hRd]
  refine Ev.bind E1 (Ev.bind0 E2 (Ev.bind E3 (Ev.bind E4 (Ev.bind E5 ?_))))
  simp only [w3, w4, w5]
  have E6 := Encode_ev v1 v3 v4 v5 g1.1 g1.2
  by_cases hr : RightM v3 v4 v5
  · rw [if_pos hr] at E6
    have he : ¬ metaE v1 v3 v4 v5 = B := fun he => hno ⟨v1, v3, v4, v5, ⟨g1.1, g1.2, hr⟩, he.symm⟩
    exact Ev.bind E6 (Ev.iteT rfl (Ev.bind0 (Equal_eq (metaE_bytes _ _ _ _) hb) (Ev.iteF (by simpa using he) (Ev.now _))))
  · rw [if_neg hr] at E6
    exact Ev.bind E6 (Ev.iteF (by decide) (Ev.now _))
theorem refGet (l : List Int) (hb : Bytes l) (hl : l.length = 252) (i : Int) (d : Nat) (hi : 0 ≤ i ∧ i + d ≤ 252) (hd : 1 ≤ d ∧ d ≤ 8) : ∃ v, 0 ≤ v ∧ v < 256 ^ d ∧ getE l i d = (v, 0) := by
  refine ⟨getB ((l.drop i.toNat).take d), (getB_bound (bytes_take (bytes_drop hb _) _)).1, ?_, ?_⟩
  · have h := (getB_bound (bytes_take (bytes_drop hb i.toNat) d)).2
    rwa [show ((l.drop i.toNat).take d).length = d by simp; omega] at h
  · unfold getE
    rw [if_neg (by omega), if_neg (by omega)]
    simp
theorem refDec (B : List Int) (hb : Bytes B) (hl : B.length ≤ 140737488351232) : Ev (fun k => terrierref05_Decode.f k B) ((0, 0, 0, 0, errM B) : MRes) ∨ ∃ t r s z, Fit t r s z ∧ B = metaE t r s z ∧ Ev (fun k => terrierref05_Decode.f k B) ((t, r, s, z, 0) : MRes) := by
  by_cases c : (B.length : Int) = 256
  case neg =>
    refine Or.inl (Ev.eq (r := (0, 0, 0, 0, 4)) ?_ (by unfold errM; rw [if_neg (by omega)]))
    unfold terrierref05_Decode.f
    exact Ev.iteF c (Ev.now _)
  have hO := refOpen_ev B hb hl
  by_cases h2 : (openB B).2 = 0
  case neg =>
    refine Or.inl (Ev.eq (r := (0, 0, 0, 0, (openB B).2)) ?_ (by unfold errM; rw [if_pos (by omega), if_neg h2]))
    unfold terrierref05_Decode.f
    exact Ev.iteT c (Ev.bind hO (Ev.iteF h2 (Ev.now _)))
  have e4 : errM B = 4 := by unfold errM; rw [if_pos (by omega), if_pos h2]
  rw [open_cases B (by omega) h2] at hO
  have hR : Bytes (B.drop 4) := bytes_drop hb 4
  have hRl : (B.drop 4).length = 252 := by simp; omega
  generalize B.drop 4 = R at hR hRl hO
  have p8 : (256 : Int) ^ 8 = 18446744073709551616 := by decide
  have p4 : (256 : Int) ^ 4 = 4294967296 := by decide
  have G : ∀ (i : Int) (d : Nat), (0 ≤ i ∧ i + d ≤ 252) → (1 ≤ d ∧ d ≤ 8) → Ev (fun k => terrierref01_Get.f k R i d) (getE R i d) := fun i d hi hd => refGet_ev R i d hR (by omega) (by omega) (by omega) (by omega) (by omega)
  obtain ⟨a, a0, a1, ea⟩ := refGet R hR hRl 1 8 (by omega) (by omega)
  obtain ⟨b, b0, b1, eb⟩ := refGet R hR hRl 14 4 (by omega) (by omega)
  obtain ⟨x, x0, x1, ex⟩ := refGet R hR hRl 18 4 (by omega) (by omega)
  obtain ⟨d, d0, d1, ed⟩ := refGet R hR hRl 22 4 (by omega) (by omega)
  have Ga := G 1 8 (by omega) (by omega)
  have Gb := G 14 4 (by omega) (by omega)
  have Gx := G 18 4 (by omega) (by omega)
  have Gd := G 22 4 (by omega) (by omega)
  rw [ea] at Ga
  rw [eb] at Gb
  rw [ex] at Gx
  rw [ed] at Gd
  rw [p8] at a1
  rw [p4] at b1 x1 d1
  have run : ∀ res, Ev (fun k => (terrierref05_Right.f a b x d).bind fun r => if r = true then ((terrierref05_Encode.f k a b x d).bind fun e => (terrierref01_Same.f e B).bind fun s => if s = true then some (a, b, x, d, (0 : Int)) else some (0, 0, 0, 0, 4)) else some (0, 0, 0, 0, 4)) res → Ev (fun k => terrierref05_Decode.f k B) res := by
    intro res h
    unfold terrierref05_Decode.f
    refine Ev.iteT c (Ev.bind hO (Ev.iteT rfl (Ev.bind Ga (Ev.bind Gb (Ev.bind Gx (Ev.bind Gd ?_))))))
    simp only [wrap64_id (n := b) (by omega) (by omega), wrap64_id (n := x) (by omega) (by omega), wrap64_id (n := d) (by omega) (by omega)]
    exact h
  by_cases hr : RightM b x d
  · by_cases he : metaE a b x d = B
    · exact Or.inr ⟨a, b, x, d, ⟨a0, a1, hr⟩, he.symm, run _ (Ev.bind0 (refRight_eq a b x d) (Ev.iteT (by simpa using hr) (Ev.bind (refEncode_ev ⟨a0, a1, hr⟩) (Ev.bind0 (Same_eq (metaE_bytes _ _ _ _) hb) (Ev.iteT (by simpa using he) (Ev.now _))))))⟩
    · refine Or.inl (Ev.eq (r := (0, 0, 0, 0, 4)) ?_ (by rw [e4]))
      exact run _ (Ev.bind0 (refRight_eq a b x d) (Ev.iteT (by simpa using hr) (Ev.bind (refEncode_ev ⟨a0, a1, hr⟩) (Ev.bind0 (Same_eq (metaE_bytes _ _ _ _) hb) (Ev.iteF (by simpa using he) (Ev.now _))))))
  · refine Or.inl (Ev.eq (r := (0, 0, 0, 0, 4)) ?_ (by rw [e4]))
    exact run _ (Ev.bind0 (refRight_eq a b x d) (Ev.iteF (by simpa using hr) (Ev.now _)))
theorem refDec_enc {t r s z : Int} (h : Fit t r s z) : Ev (fun k => terrierref05_Decode.f k (metaE t r s z)) ((t, r, s, z, 0) : MRes) := by
  obtain ⟨t0, t1, hr⟩ := h
  obtain ⟨⟨r0, r1⟩, ⟨s0, s1⟩, z0, z1⟩ := hr.low
  have hO := refOpen_ev (metaE t r s z) (metaE_bytes t r s z) (by rw [metaE_length]; omega)
  rw [metaE, open_seal (body_bytes t r s z)] at hO
  have hR := body_bytes t r s z
  have hRl := body_length t r s z
  have p8 := pow256_8
  have p4 : (256 : Int) ^ 4 = 4294967296 := by decide
  have G : ∀ (i : Int) (d : Nat), (0 ≤ i ∧ i + d ≤ 252) → (1 ≤ d ∧ d ≤ 8) → Ev (fun k => terrierref01_Get.f k (bodyM t r s z) i d) (getE (bodyM t r s z) i d) := fun i d hi hd => refGet_ev _ i d hR (by omega) (by omega) (by omega) (by omega) (by omega)
  have Ga := G 1 8 (by omega) (by omega)
  have Gb := G 14 4 (by omega) (by omega)
  have Gx := G 18 4 (by omega) (by omega)
  have Gd := G 22 4 (by omega) (by omega)
  have ea := getE_at (B := bodyM t r s z) (p := [9]) (q := [84, 69, 82, 82, 1] ++ putB r 4 ++ putB s 4 ++ putB z 4 ++ (List.replicate 218 0 ++ putB t 8)) (n := t) (d := 8) (by unfold bodyM; generalize List.replicate 218 (0 : Int) = Z; simp) (by omega) (by omega) (by omega) (by omega)
  have eb := getE_at (B := bodyM t r s z) (p := [9] ++ putB t 8 ++ [84, 69, 82, 82, 1]) (q := putB s 4 ++ putB z 4 ++ (List.replicate 218 0 ++ putB t 8)) (n := r) (d := 4) (by unfold bodyM; generalize List.replicate 218 (0 : Int) = Z; simp) (by omega) (by omega) (by omega) (by omega)
  have ex := getE_at (B := bodyM t r s z) (p := [9] ++ putB t 8 ++ [84, 69, 82, 82, 1] ++ putB r 4) (q := putB z 4 ++ (List.replicate 218 0 ++ putB t 8)) (n := s) (d := 4) (by unfold bodyM; generalize List.replicate 218 (0 : Int) = Z; simp) (by omega) (by omega) (by omega) (by omega)
  have ed := getE_at (B := bodyM t r s z) (p := [9] ++ putB t 8 ++ [84, 69, 82, 82, 1] ++ putB r 4 ++ putB s 4) (q := List.replicate 218 0 ++ putB t 8) (n := z) (d := 4) (by unfold bodyM; generalize List.replicate 218 (0 : Int) = Z; simp) (by omega) (by omega) (by omega) (by omega)
  simp only [List.length_append, putB_length, List.length_cons, List.length_nil] at ea eb ex ed
  replace Ga := Ev.eq Ga ea
  replace Gb := Ev.eq Gb eb
  replace Gx := Ev.eq Gx ex
  replace Gd := Ev.eq Gd ed
  unfold terrierref05_Decode.f
  refine Ev.iteT (by rw [metaE_length]; rfl) (Ev.bind hO (Ev.iteT rfl (Ev.bind Ga (Ev.bind Gb (Ev.bind Gx (Ev.bind Gd ?_))))))
  simp only [wrap64_id (n := r) (by omega) (by omega), wrap64_id (n := s) (by omega) (by omega), wrap64_id (n := z) (by omega) (by omega)]
  exact Ev.bind0 (refRight_eq t r s z) (Ev.iteT (by simpa using hr) (Ev.bind (refEncode_ev ⟨t0, t1, hr⟩) (Ev.bind0 (Same_self _) (Ev.iteT rfl (Ev.now _)))))
/-- Both packages read the same. -/
theorem both (B : List Int) (hb : Bytes B) (hl : B.length ≤ 140737488351232) : ∃ res : MRes, Ev (fun k => meta_Decode.f k B) res ∧ Ev (fun k => terrierref05_Decode.f k B) res := by
  by_cases h : ∃ t r s z, Fit t r s z ∧ B = metaE t r s z
  · obtain ⟨t, r, s, z, hf, rfl⟩ := h
    exact ⟨_, dec_enc hf, refDec_enc hf⟩
  · refine ⟨_, dec' B hb hl h, ?_⟩
    rcases refDec B hb hl with h' | ⟨t, r, s, z, hf, e, _⟩
    · exact h'
    · exact absurd ⟨t, r, s, z, hf, e⟩ h
theorem of_eq (a b c d : Int) : terrierlaw05_of.f a b c d = some (a, b, c, d) := rfl
end Go.Proofs.Ytfkihcdonddcoaa.MetD
