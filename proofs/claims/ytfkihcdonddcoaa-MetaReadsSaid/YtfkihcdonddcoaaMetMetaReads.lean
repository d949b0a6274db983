/- Package meta's own functions, told plainly: what is right, its bytes, and which bytes are read. -/
import Derived.Test.YtfkihcdonddcoaaOctMetaReads
import Derived.Test.YtfkihcdonddcoaaCrcMetaReads
import Derived.Test.YtfkihcdonddcoaaSumMetaReads
import Derived.Test.YtfkihcdonddcoaaRdEMetaReads
import Derived.Test.YtfkihcdonddcoaaPRx10
import Derived.Test.YtfkihcdonddcoaaPRx3
import Derived.Test.YtfkihcdonddcoaaPRx6
namespace Go.Proofs.Ytfkihcdonddcoaa.Met
open Go.RowKit Go.Proofs.YtfkihcdonddcoaaW.PrintWords Go.Proofs.YtfkihcdonddcoaaW.PrintLast Go.Proofs.YtfkihcdonddcoaaW.PrintMore Go.Proofs.Ytfkihcdonddcoaa.PR Go.Proofs.Ytfkihcdonddcoaa.Base Go.Proofs.Ytfkihcdonddcoaa.Oct Go.Proofs.Ytfkihcdonddcoaa.Crc Go.Proofs.Ytfkihcdonddcoaa.Sum Go.Proofs.Ytfkihcdonddcoaa.RdE

def Spot (n z : Int) : Prop := n = 0 ∨ 2 ≤ n ∧ n < z
instance (n z : Int) : Decidable (Spot n z) := by unfold Spot; infer_instance
def RightM (r s z : Int) : Prop := Spot r z ∧ Spot s z ∧ 8 ≤ z ∧ z ≤ 1024
instance (r s z : Int) : Decidable (RightM r s z) := by unfold RightM; infer_instance
theorem RightM.low {r s z : Int} (h : RightM r s z) : (0 ≤ r ∧ r < 1024) ∧ (0 ≤ s ∧ s < 1024) ∧ 0 ≤ z ∧ z ≤ 1024 := by
  obtain ⟨h1, h2, h3, h4⟩ := h
  unfold Spot at h1 h2
  omega
section
variable (t r s z : Int)
theorem Right_last : Ev (fun k => meta_Right.l0 k [r, s] 2 2 t r s z) (decide (8 ≤ z ∧ z ≤ 1024)) := by
  refine Ev.step (fun k => by rw [meta_Right.l0]) ?_
  refine Ev.iteF (by decide) ?_
  by_cases h : z ≥ 8
  · exact Ev.eq (Ev.iteT h (Ev.now _)) (decide_eq_decide.2 (by omega))
  · exact Ev.eq (Ev.iteF h (Ev.now _)) (decide_eq_false (by omega)).symm
theorem Right_two : Ev (fun k => meta_Right.l0 k [r, s] 2 1 t r s z) (decide (Spot s z ∧ 8 ≤ z ∧ z ≤ 1024)) := by
  refine Ev.step (fun k => by rw [meta_Right.l0]) ?_
  refine Ev.iteT (by decide) (Ev.iteT (by decide) (Ev.iteT (by simp) ?_))
  simp only [show rd [r, s] 1 = s from rfl, show wrap64 (1 + 1) = 2 by unfold wrap64; omega]
  by_cases h0 : s = 0
  · exact Ev.eq (Ev.iteT h0 (Right_last t r s z)) (decide_eq_decide.2 (by unfold Spot; omega))
  · by_cases h1 : s < 2
    · exact Ev.eq (Ev.iteF h0 (Ev.iteT h1 (Ev.now _))) (decide_eq_false (by unfold Spot; omega)).symm
    · by_cases h2 : s ≥ z
      · exact Ev.eq (Ev.iteF h0 (Ev.iteF h1 (Ev.iteT h2 (Ev.now _)))) (decide_eq_false (by unfold Spot; omega)).symm
      · exact Ev.eq (Ev.iteF h0 (Ev.iteF h1 (Ev.iteF h2 (Right_last t r s z)))) (decide_eq_decide.2 (by unfold Spot; omega))
theorem Right_ev : Ev (fun k => meta_Right.f k t r s z) (decide (RightM r s z)) := by
  unfold meta_Right.f
  refine Ev.bind0 rfl ?_
  simp only [show (([r, s] : List Int).length : Int) = 2 from rfl]
  refine Ev.step (fun k => by rw [meta_Right.l0]) ?_
  refine Ev.iteT (by decide) (Ev.iteT (by decide) (Ev.iteT (by simp) ?_))
  simp only [show rd [r, s] 0 = r from rfl, show wrap64 (0 + 1) = 1 by unfold wrap64; omega]
  by_cases h0 : r = 0
  · exact Ev.eq (Ev.iteT h0 (Right_two t r s z)) (decide_eq_decide.2 (by unfold RightM Spot; omega))
  · by_cases h1 : r < 2
    · exact Ev.eq (Ev.iteF h0 (Ev.iteT h1 (Ev.now _))) (decide_eq_false (by unfold RightM Spot; omega)).symm
    · by_cases h2 : r ≥ z
      · exact Ev.eq (Ev.iteF h0 (Ev.iteF h1 (Ev.iteT h2 (Ev.now _)))) (decide_eq_false (by unfold RightM Spot; omega)).symm
      · exact Ev.eq (Ev.iteF h0 (Ev.iteF h1 (Ev.iteF h2 (Right_two t r s z)))) (decide_eq_decide.2 (by unfold RightM Spot; omega))
def bodyM : List Int := [9] ++ putB t 8 ++ [84, 69, 82, 82, 1] ++ putB r 4 ++ putB s 4 ++ putB z 4 ++ List.replicate 218 0 ++ putB t 8
def metaE : List Int := sealB (bodyM t r s z)
theorem body_length : (bodyM t r s z).length = 252 := by simp only [bodyM, List.length_append, putB_length, List.length_replicate, List.length_cons, List.length_nil]
theorem body_bytes : Bytes (bodyM t r s z) := by
  unfold bodyM
  simp only [bytes_append]
  refine ⟨⟨⟨⟨⟨⟨⟨?_, putB_bytes _ _⟩, ?_⟩, putB_bytes _ _⟩, putB_bytes _ _⟩, putB_bytes _ _⟩, ?_⟩, putB_bytes _ _⟩
  · intro x hx; simp at hx; omega
  · intro x hx; simp at hx; omega
  · intro x hx; have := List.eq_of_mem_replicate hx; omega
theorem metaE_length : (metaE t r s z).length = 256 := by rw [metaE, seal_length, body_length]
theorem metaE_bytes : Bytes (metaE t r s z) := seal_bytes (body_bytes t r s z)
theorem metaZ_eq : metaZ (putB t 8) (putB r 4) (putB s 4) (putB z 4) = bodyM t r s z := by
  have h : (metaB (putB t 8) (putB r 4) (putB s 4) (putB z 4)).length = 26 := by simp [metaB, putB_length]
  unfold metaZ
  rw [h]
  rfl
end
theorem put8 {n : Int} (h0 : 0 ≤ n) (h1 : n < 18446744073709551616) : Ev (fun k => octets_Put.f k n 8) (putB n 8, 0) := by
  refine Ev.eq (Put_ev n 8 h0 h1 (by omega) (by omega)) ?_
  unfold putE
  rw [if_neg (by omega), if_neg]
  · rfl
  · rw [show (256 : Int) ^ (Int.toNat 8) = 18446744073709551616 by decide]; omega
theorem put4 {n : Int} (h0 : 0 ≤ n) (h1 : n < 4294967296) : Ev (fun k => octets_Put.f k (IntKind.u64.wrap n) 4) (putB n 4, 0) := by
  rw [wrap_u64_id h0 (by omega)]
  refine Ev.eq (Put_ev n 4 h0 (by omega) (by omega) (by omega)) ?_
  unfold putE
  rw [if_neg (by omega), if_neg]
  · rfl
  · rw [show (256 : Int) ^ (Int.toNat 4) = 4294967296 by decide]; omega
theorem Encode_ev (t r s z : Int) (h0 : 0 ≤ t) (h1 : t < 18446744073709551616) : Ev (fun k => meta_Encode.f k t r s z) (if RightM r s z then (metaE t r s z, 0) else ([], 4)) := by
  unfold meta_Encode.f
  by_cases hr : RightM r s z
  · rw [if_pos hr]
    obtain ⟨⟨r0, r1⟩, ⟨s0, s1⟩, z0, z1⟩ := hr.low
    refine Ev.bind (Right_ev t r s z) (Ev.iteT (by simpa using hr) ?_)
    refine Ev.bind (put8 h0 h1) (Ev.bind (put4 r0 (by omega)) (Ev.bind (put4 s0 (by omega)) (Ev.bind (put4 z0 (by omega)) ?_)))
    refine Ev.iteT (by simp [putB_length]) (Ev.iteT (by simp [putB_length]) (Ev.iteT (by simp [putB_length]) (Ev.iteT (by simp [putB_length]) ?_)))
    simp only [metaZ_eq]
    exact Ev.bind (Seal_ev _ (body_bytes t r s z) (by rw [body_length]; omega)) (Ev.now _)
  · rw [if_neg hr]
    exact Ev.bind (Right_ev t r s z) (Ev.iteF (by simpa using hr) (Ev.now _))
theorem ev_eq {α : Type} {g : Nat → Option α} {r r' : α} (h : Ev g r) (h' : Ev g r') : r = r' := by
  obtain ⟨K, hK⟩ := h
  obtain ⟨K', hK'⟩ := h'
  have a := hK (max K K') (Nat.le_max_left _ _)
  have b := hK' (max K K') (Nat.le_max_right _ _)
  rw [a] at b
  exact Option.some.inj b
abbrev Fit (t r s z : Int) : Prop := 0 ≤ t ∧ t < 18446744073709551616 ∧ RightM r s z
theorem dec (B : List Int) (hb : Bytes B) (hl : B.length ≤ 140737488351232) : ∃ res : Int × Int × Int × Int × Int, Ev (fun k => meta_Decode.f k B) res ∧
    ((∃ t r s z, Fit t r s z ∧ B = metaE t r s z ∧ res = (t, r, s, z, 0)) ∨ ∃ e, e ≠ 0 ∧ res = (0, 0, 0, 0, e)) := by
  by_cases c : (B.length : Int) = 256
  case neg =>
    exact ⟨(0, 0, 0, 0, 4), by unfold meta_Decode.f; exact Ev.iteF c (Ev.now _), Or.inr ⟨4, by decide, rfl⟩⟩
  have hO := Open_ev B hb (by omega)
  by_cases cs : openB B = (B.drop 4, 0)
  case neg =>
    have h2 : (openB B).2 ≠ 0 := by
      intro h
      apply cs
      unfold openB at h ⊢
      rw [if_neg (by omega)] at h ⊢
      split
      · rfl
      · rename_i h3
        rw [if_neg h3] at h
        cases h
    exact ⟨(0, 0, 0, 0, (openB B).2), by unfold meta_Decode.f; exact Ev.iteT c (Ev.bind hO (Ev.iteF h2 (Ev.now _))), Or.inr ⟨_, h2, rfl⟩⟩
  rw [cs] at hO
  have hR : Bytes ((B.drop 4).drop 1) := bytes_drop (bytes_drop hb 4) 1
  have hRl : ((B.drop 4).drop 1).length = 251 := by simp; omega
  generalize hRd : (B.drop 4).drop 1 = R at hR hRl
  rcases h1 : numE R 0 0 8 with ⟨v1, a1, e1⟩
  have E1 := Num_ev R hR (by omega) 0 0 8 (by omega) (by omega) (by omega)
  have r1 := numE_at_le (B := R) (a := 0) (e := 0) (sz := 8) (by omega) (by omega)
  have g1 := numE_range hR 0 0 8
  rw [h1] at E1 r1 g1
  rcases h2 : bytesE R a1 e1 5 with ⟨x, a2, e2⟩
  have E2 := Bytes_eq R hR (by omega) a1 e1 5 r1.1 r1.2 (by omega)
  have r2 := bytesE_at_le (B := R) (a := a1) (e := e1) (n := 5) r1.1 r1.2
  rw [h2] at E2 r2
  rcases h3 : numE R a2 e2 4 with ⟨v3, a3, e3⟩
  have E3 := Num_ev R hR (by omega) a2 e2 4 r2.1 r2.2 (by omega)
  have r3 := numE_at_le (B := R) (a := a2) (e := e2) (sz := 4) r2.1 r2.2
  have g3 := numE_range hR a2 e2 4
  rw [h3] at E3 r3 g3
  rcases h4 : numE R a3 e3 4 with ⟨v4, a4, e4⟩
  have E4 := Num_ev R hR (by omega) a3 e3 4 r3.1 r3.2 (by omega)
  have r4 := numE_at_le (B := R) (a := a3) (e := e3) (sz := 4) r3.1 r3.2
  have g4 := numE_range hR a3 e3 4
  rw [h4] at E4 r4 g4
  rcases h5 : numE R a4 e4 4 with ⟨v5, a5, e5⟩
  have E5 := Num_ev R hR (by omega) a4 e4 4 r4.1 r4.2 (by omega)
  have g5 := numE_range hR a4 e4 4
  rw [h5] at E5 g5
  have p8 : (256 : Int) ^ (Int.toNat 8) = 18446744073709551616 := by decide
  have p4 : (256 : Int) ^ (Int.toNat 4) = 4294967296 := by decide
  rw [p8] at g1
  rw [p4] at g3 g4 g5
  have w3 : wrap64 v3 = v3 := wrap64_id (by have := g3.1; dsimp only at this; omega) (by have := g3.2; dsimp only at this; omega)
  have w4 : wrap64 v4 = v4 := wrap64_id (by have := g4.1; dsimp only at this; omega) (by have := g4.2; dsimp only at this; omega)
  have w5 : wrap64 v5 = v5 := wrap64_id (by have := g5.1; dsimp only at this; omega) (by have := g5.2; dsimp only at this; omega)
  have run : ∀ res, Ev (fun k => (meta_Encode.f k v1 v3 v4 v5).bind fun bt => if bt.2 = 0 then ((bytes_Equal.f bt.1 B).bind fun u => if u = true then some (v1, v3, v4, v5, (0 : Int)) else some (0, 0, 0, 0, 4)) else some (0, 0, 0, 0, 4)) res → Ev (fun k => meta_Decode.f k B) res := by
    intro res h
    unfold meta_Decode.f
    refine Ev.iteT c (Ev.bind hO (Ev.iteT rfl (Ev.iteT (by simp; omega) (Ev.bind0 (New_eq _ (by simp; omega)) ?_))))
    simp only [hRd]
    refine Ev.bind E1 (Ev.bind0 E2 (Ev.bind E3 (Ev.bind E4 (Ev.bind E5 ?_))))
    simp only [w3, w4, w5]
    exact h
  have E6 := Encode_ev v1 v3 v4 v5 g1.1 g1.2
  by_cases hr : RightM v3 v4 v5
  · rw [if_pos hr] at E6
    by_cases he : metaE v1 v3 v4 v5 = B
    · exact ⟨_, run _ (Ev.bind E6 (Ev.iteT rfl (Ev.bind0 (Equal_eq (metaE_bytes _ _ _ _) hb) (Ev.iteT (by simpa using he) (Ev.now _))))), Or.inl ⟨v1, v3, v4, v5, ⟨g1.1, g1.2, hr⟩, he.symm, rfl⟩⟩
    · exact ⟨_, run _ (Ev.bind E6 (Ev.iteT rfl (Ev.bind0 (Equal_eq (metaE_bytes _ _ _ _) hb) (Ev.iteF (by simpa using he) (Ev.now _))))), Or.inr ⟨4, by decide, rfl⟩⟩
  · rw [if_neg hr] at E6
    exact ⟨_, run _ (Ev.bind E6 (Ev.iteF (by decide) (Ev.now _))), Or.inr ⟨4, by decide, rfl⟩⟩
theorem dec_enc {t r s z : Int} (h : Fit t r s z) : Ev (fun k => meta_Decode.f k (metaE t r s z)) (t, r, s, z, 0) := by
  obtain ⟨t0, t1, hr⟩ := h
  obtain ⟨⟨r0, r1⟩, ⟨s0, s1⟩, z0, z1⟩ := hr.low
  have hO := Open_ev (metaE t r s z) (metaE_bytes t r s z) (by rw [metaE_length]; omega)
  rw [metaE, open_seal (body_bytes t r s z)] at hO
  have e : (bodyM t r s z).drop 1 = putB t 8 ++ [84, 69, 82, 82, 1] ++ putB r 4 ++ putB s 4 ++ putB z 4 ++ (List.replicate 218 0 ++ putB t 8) := by
    unfold bodyM
    generalize List.replicate 218 (0 : Int) = Z
    simp
  have hR : Bytes ((bodyM t r s z).drop 1) := bytes_drop (body_bytes t r s z) 1
  have hRl : ((bodyM t r s z).drop 1).length = 251 := by simp [body_length]
  have p8 := pow256_8
  have p4 : (256 : Int) ^ 4 = 4294967296 := by decide
  generalize hRd : (bodyM t r s z).drop 1 = R at hR hRl e
  have E1 := Num_ev R hR (by omega) 0 0 8 (by omega) (by omega) (by omega)
  rw [numE_at (p := []) (q := [84, 69, 82, 82, 1] ++ putB r 4 ++ putB s 4 ++ putB z 4 ++ (List.replicate 218 0 ++ putB t 8)) (n := t) (d := 8) (by rw [e]; generalize List.replicate 218 (0 : Int) = Z; simp) (by omega) (by omega) (by omega) (by omega) 0 8 rfl rfl] at E1
  have E2 := Bytes_eq R hR (by omega) (0 + ((8 : Nat) : Int)) 0 5 (by omega) (by omega) (by omega)
  rw [bytesE_at (p := putB t 8) (t := [84, 69, 82, 82, 1]) (q := putB r 4 ++ putB s 4 ++ putB z 4 ++ (List.replicate 218 0 ++ putB t 8)) (by rw [e]; generalize List.replicate 218 (0 : Int) = Z; simp) _ 5 (by simp [putB_length]) rfl] at E2
  have E3 := Num_ev R hR (by omega) (0 + ((8 : Nat) : Int) + (([84, 69, 82, 82, 1] : List Int).length : Int)) 0 4 (by simp) (by simp; omega) (by omega)
  rw [numE_at (p := putB t 8 ++ [84, 69, 82, 82, 1]) (q := putB s 4 ++ putB z 4 ++ (List.replicate 218 0 ++ putB t 8)) (n := r) (d := 4) (by rw [e]; generalize List.replicate 218 (0 : Int) = Z; simp) (by omega) (by omega) (by omega) (by omega) _ 4 (by simp [putB_length]) rfl] at E3
  have E4 := Num_ev R hR (by omega) (0 + ((8 : Nat) : Int) + (([84, 69, 82, 82, 1] : List Int).length : Int) + ((4 : Nat) : Int)) 0 4 (by simp) (by simp; omega) (by omega)
  rw [numE_at (p := putB t 8 ++ [84, 69, 82, 82, 1] ++ putB r 4) (q := putB z 4 ++ (List.replicate 218 0 ++ putB t 8)) (n := s) (d := 4) (by rw [e]; generalize List.replicate 218 (0 : Int) = Z; simp) (by omega) (by omega) (by omega) (by omega) _ 4 (by simp [putB_length]) rfl] at E4
  have E5 := Num_ev R hR (by omega) (0 + ((8 : Nat) : Int) + (([84, 69, 82, 82, 1] : List Int).length : Int) + ((4 : Nat) : Int) + ((4 : Nat) : Int)) 0 4 (by simp) (by simp; omega) (by omega)
  rw [numE_at (p := putB t 8 ++ [84, 69, 82, 82, 1] ++ putB r 4 ++ putB s 4) (q := List.replicate 218 0 ++ putB t 8) (n := z) (d := 4) (by rw [e]) (by omega) (by omega) (by omega) (by omega) _ 4 (by simp [putB_length]) rfl] at E5
  have E6 := Encode_ev t r s z t0 t1
  rw [if_pos hr] at E6
  unfold meta_Decode.f
  refine Ev.iteT (by rw [metaE_length]; rfl) (Ev.bind hO (Ev.iteT rfl (Ev.iteT (by rw [body_length]; decide) (Ev.bind0 (New_eq _ (by simp [body_length])) ?_))))
  simp only [hRd]
  refine Ev.bind E1 (Ev.bind0 E2 (Ev.bind E3 (Ev.bind E4 (Ev.bind E5 ?_))))
  simp only [wrap64_id (n := r) (by omega) (by omega), wrap64_id (n := s) (by omega) (by omega), wrap64_id (n := z) (by omega) (by omega)]
  exact Ev.bind E6 (Ev.iteT rfl (Ev.bind0 (Equal_eq (metaE_bytes _ _ _ _) (metaE_bytes _ _ _ _)) (Ev.iteT (by simp) (Ev.now _))))
theorem metaE_inj {t r s z t' r' s' z' : Int} (h : Fit t r s z) (h' : Fit t' r' s' z') (e : metaE t r s z = metaE t' r' s' z') : (t, r, s, z) = (t', r', s', z') := by
  have a := dec_enc h
  rw [e] at a
  have b := ev_eq a (dec_enc h')
  simp only [Prod.mk.injEq] at b ⊢
  exact ⟨b.1, b.2.1, b.2.2.1, b.2.2.2.1⟩
abbrev MRes := Int × Int × Int × Int × Int
def pick (i : Int) (q d : MRes) : MRes := if d.2.2.2.2 = 0 ∧ Int.tmod d.1 2 = i ∧ (q.2.2.2.2 = 0 → d.1 > q.1) then (d.1, d.2.1, d.2.2.1, d.2.2.2.1, 0) else q
theorem pick_bad (i : Int) (q d : MRes) (h : d.2.2.2.2 ≠ 0) : pick i q d = q := by rw [pick, if_neg (fun x => h x.1)]
theorem pick_far (i : Int) (q d : MRes) (h : Int.tmod d.1 2 ≠ i) : pick i q d = q := by rw [pick, if_neg (fun x => h x.2.1)]
theorem pick_new (i : Int) (q d : MRes) (h0 : d.2.2.2.2 = 0) (h1 : Int.tmod d.1 2 = i) (h2 : q.2.2.2.2 = 0 → d.1 > q.1) : pick i q d = d := by
  rw [pick, if_pos ⟨h0, h1, h2⟩, ← h0]
theorem pick_old (i : Int) (q d : MRes) (h0 : q.2.2.2.2 = 0) (h1 : ¬ d.1 > q.1) : pick i q d = q := by rw [pick, if_neg (fun x => h1 (x.2.2 h0))]
theorem par {t : Int} (h : 0 ≤ t) : Int.tmod t 2 = t % 2 := Int.tmod_eq_emod_of_nonneg h
theorem metaE_drop (t r s z : Int) : (metaE t r s z).drop 4 = bodyM t r s z := by rw [metaE, sealB, List.drop_left' (by simp [putB_length])]
theorem zeros_dec : ∃ e, e ≠ 0 ∧ Ev (fun k => meta_Decode.f k (List.replicate 256 0)) ((0, 0, 0, 0, e) : MRes) := by
  obtain ⟨res, h, hc⟩ := dec (List.replicate 256 0) (fun x hx => by have := List.eq_of_mem_replicate hx; omega) (by rw [List.length_replicate]; omega)
  rcases hc with ⟨t, r, s, z, _, e, _⟩ | ⟨e, he, rfl⟩
  · have h2 := congrArg (fun l => (l.drop 4).head?) e
    simp only [metaE_drop, List.drop_replicate] at h2
    have h3 : (bodyM t r s z).head? = some 9 := rfl
    rw [h3, List.head?_replicate] at h2
    simp at h2
  · exact ⟨e, he, h⟩
theorem lives_ev : Ev (fun k => terrierlaw05_lives.f k) true := by
  unfold terrierlaw05_lives.f
  have h : Fit 4 3 0 8 := ⟨by decide, by decide, by decide⟩
  have E := Encode_ev 4 3 0 8 (by decide) (by decide)
  rw [if_pos h.2.2] at E
  exact Ev.bind E (Ev.bind (dec_enc h) (Ev.iteT rfl (Ev.iteT rfl (Ev.now _))))
end Go.Proofs.Ytfkihcdonddcoaa.Met
