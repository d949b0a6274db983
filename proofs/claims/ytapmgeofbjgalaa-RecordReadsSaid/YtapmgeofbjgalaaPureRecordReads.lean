/- Any bytes are the record that the document says, or a tombstone's, or neither's: the plain statement that is left of the law RecordReads, for any bytes. -/
import Derived.Test.YtapmgeofbjgalaaOctRecordReads
import Derived.Test.YtapmgeofbjgalaaRecRecordReads
import Derived.Test.YtapmgeofbjgalaaRecRefRecordReads
import Derived.Test.YtapmgeofbjgalaaRdERecordReads
import Derived.Test.YtapmgeofbjgalaaPRx11
import Derived.Test.YtapmgeofbjgalaaPRx19
import Derived.Test.YtapmgeofbjgalaaPRx20
namespace Go.Proofs.Ytapmgeofbjgalaa.Pure
open Go.RowKit Go.Proofs.YtapmgeofbjgalaaW.PrintWords Go.Proofs.YtapmgeofbjgalaaW.PrintLast Go.Proofs.YtapmgeofbjgalaaW.PrintMore Go.Proofs.Ytapmgeofbjgalaa.PR Go.Proofs.Ytapmgeofbjgalaa.Base Go.Proofs.Ytapmgeofbjgalaa.Oct Go.Proofs.Ytapmgeofbjgalaa.Rec Go.Proofs.Ytapmgeofbjgalaa.RecRef Go.Proofs.Ytapmgeofbjgalaa.RdE
theorem recE_bytes {k v : List Int} (hk : Bytes k) (hv : Bytes v) (c m n l : Int) : Bytes (recE k v c m n l) := by
  unfold recE
  simp only [bytes_append]
  exact ⟨⟨⟨⟨⟨⟨⟨⟨by intro x hx; simp at hx; omega, putB_bytes _ _⟩, hk⟩, putB_bytes _ _⟩, putB_bytes _ _⟩, putB_bytes _ _⟩, putB_bytes _ _⟩, putB_bytes _ _⟩, hv⟩
theorem recE_length (k v : List Int) (c m n l : Int) : (recE k v c m n l).length = 37 + k.length + v.length := by simp [recE, putB_length]; omega
theorem tombE_length (k : List Int) : (tombE k).length = 3 + k.length := by simp [tombE, putB_length]; omega
theorem tombE_bytes {k : List Int} (hk : Bytes k) : Bytes (tombE k) := by
  unfold tombE
  simp only [bytes_append]
  exact ⟨⟨by intro x hx; simp at hx; omega, putB_bytes _ _⟩, hk⟩
theorem one_byte (n : Int) (h0 : 0 ≤ n) (h1 : n < 256) : putB n 1 = [n] := by simp [putB]; omega
theorem ev_eq {α : Type} {g : Nat → Option α} {r r' : α} (h : Ev g r) (h' : Ev g r') : r = r' := by
  obtain ⟨K, hK⟩ := h
  obtain ⟨K', hK'⟩ := h'
  have a := hK (max K K') (Nat.le_max_left _ _)
  have b := hK' (max K K') (Nat.le_max_right _ _)
  rw [a] at b
  exact Option.some.inj b
abbrev Res (t : Type) := List Int × List Int × Int × Int × Int × Int × Bool × t

theorem rj0 {b : Bool} {k v : List Int} {c m n l : Int} {r : Res Int} (h : Ev (fun _ => if b = true then some (k, v, c, m, n, l, false, (0 : Int)) else some (([] : List Int), ([] : List Int), 0, 0, 0, 0, false, 4)) r) : Ev (fun q => record_Decode.j0 q b k v c m n l) r := Ev.step (fun q => by rw [record_Decode.j0]) h
theorem rj1 {b : Bool} {k : List Int} {c m n l : Int} {r : Res Int} (h : Ev (fun _ => if b = true then some (k, ([] : List Int), c, m, n, l, true, (0 : Int)) else some (([] : List Int), ([] : List Int), 0, 0, 0, 0, false, 4)) r) : Ev (fun q => record_Decode.j1 q b k c m n l) r := Ev.step (fun q => by rw [record_Decode.j1]) h
theorem dj1 {b : Bool} {k : List Int} {c m n l : Int} {r : Res Bool} (h : Ev (fun _ => if b = true then some (k, ([] : List Int), c, m, n, l, true, true) else some (([] : List Int), ([] : List Int), 0, 0, 0, 0, false, false)) r) : Ev (fun q => terrierref13_Decode.j1 q b k c m n l) r := Ev.step (fun q => by rw [terrierref13_Decode.j1]) h
theorem dj3 {b : Bool} {k v : List Int} {c m n l : Int} {r : Res Bool} (h : Ev (fun _ => if b = true then some (([] : List Int), ([] : List Int), 0, 0, 0, 0, false, false) else some (k, v, c, m, n, l, false, true)) r) : Ev (fun q => terrierref13_Decode.j3 q b k v c m n l) r := Ev.step (fun q => by rw [terrierref13_Decode.j3]) h

/-! what is accepted is an encoding -/
section
variable (B : List Int) (hb : Bytes B) (hl : B.length ≤ 2000)
include hb hl
theorem real_dec : ∃ r : Res Int, Ev (fun q => record_Decode.f q B) r ∧
    ((∃ k v c m n l, RightP k v c m n l ∧ Bytes k ∧ Bytes v ∧ B = recE k v c m n l ∧ r = (k, v, c, m, n, l, false, 0)) ∨ (∃ k, Named k ∧ Bytes k ∧ B = tombE k ∧ r = (k, [], 0, 0, 0, 0, true, 0)) ∨ r = ([], [], 0, 0, 0, 0, false, 4)) := by
  have hl' : B.length ≤ 140737488351232 := by omega
  rcases h1 : numE B 0 0 1 with ⟨v1, a1, e1⟩
  have r1 := numE_at_le (B := B) (a := 0) (e := 0) (sz := 1) (by omega) (by omega)
  have E1 := Num_ev B hb hl' 0 0 1 (by omega) (by omega) (by omega)
  rw [h1] at r1 E1
  rcases h2 : textE B a1 e1 64 with ⟨k, a2, e2⟩
  have r2 := textE_at_le hb (a := a1) (e := e1) (n := 64) r1.1 r1.2
  have E2 := Text_ev B hb hl' a1 e1 64 r1.1 r1.2
  have b2 := textE_bytes hb a1 e1 64
  rw [h2] at r2 E2 b2
  unfold record_Decode.f
  by_cases c1 : v1 = 1
  · rcases h3 : numE B a2 e2 8 with ⟨c, a3, e3⟩
    have r3 := numE_at_le (B := B) (a := a2) (e := e2) (sz := 8) r2.1 r2.2
    have E3 := Num_ev B hb hl' a2 e2 8 r2.1 r2.2 (by omega)
    rw [h3] at r3 E3
    rcases h4 : numE B a3 e3 8 with ⟨m, a4, e4⟩
    have r4 := numE_at_le (B := B) (a := a3) (e := e3) (sz := 8) r3.1 r3.2
    have E4 := Num_ev B hb hl' a3 e3 8 r3.1 r3.2 (by omega)
    rw [h4] at r4 E4
    rcases h5 : numE B a4 e4 8 with ⟨n, a5, e5⟩
    have r5 := numE_at_le (B := B) (a := a4) (e := e4) (sz := 8) r4.1 r4.2
    have E5 := Num_ev B hb hl' a4 e4 8 r4.1 r4.2 (by omega)
    rw [h5] at r5 E5
    rcases h6 : numE B a5 e5 8 with ⟨l, a6, e6⟩
    have r6 := numE_at_le (B := B) (a := a5) (e := e5) (sz := 8) r5.1 r5.2
    have E6 := Num_ev B hb hl' a5 e5 8 r5.1 r5.2 (by omega)
    rw [h6] at r6 E6
    rcases h7 : textE B a6 e6 1024 with ⟨v, a7, e7⟩
    have r7 := textE_at_le hb (a := a6) (e := e6) (n := 1024) r6.1 r6.2
    have E7 := Text_ev B hb hl' a6 e6 1024 r6.1 r6.2
    have b7 := textE_bytes hb a6 e6 1024
    rw [h7] at r7 E7 b7
    have run : ∀ r, Ev (fun q => if endE B a7 e7 = 0 then ((record_Right.f k v (wrap64 c) (wrap64 m) (wrap64 n) (wrap64 l)).bind fun t => record_Decode.j0 q t k v (wrap64 c) (wrap64 m) (wrap64 n) (wrap64 l)) else record_Decode.j0 q false k v (wrap64 c) (wrap64 m) (wrap64 n) (wrap64 l)) r → Ev (fun q => record_Decode.f q B) r := by
      intro r hr
      unfold record_Decode.f
      exact Ev.bind0 (New_eq _ (by omega)) (Ev.bind E1 (Ev.bind E2 (Ev.iteT c1 (Ev.bind E3 (Ev.bind E4 (Ev.bind E5 (Ev.bind E6 (Ev.bind E7 (Ev.bind0 (End_eq B a7 e7) hr)))))))))
    by_cases hend : endE B a7 e7 = 0
    · by_cases hR : RightP k v (wrap64 c) (wrap64 m) (wrap64 n) (wrap64 l)
      · refine ⟨(k, v, wrap64 c, wrap64 m, wrap64 n, wrap64 l, false, 0), run _ (Ev.iteT hend (Ev.bind0 (Right_eq k v _ _ _ _) (rj0 (Ev.iteT (by simpa using hR) (Ev.now _))))), Or.inl ⟨k, v, wrap64 c, wrap64 m, wrap64 n, wrap64 l, hR, b2, b7, ?_, rfl⟩⟩
        obtain ⟨q7, ha7⟩ := endE_got r7.2 hend
        subst q7
        obtain ⟨q6, g7, _, _, p7, _, t7⟩ := textE_got hb h7
        subst q6
        obtain ⟨q5, _, _, _, p6, _, l0, l1, t6⟩ := numE_got hb h6
        subst q5
        obtain ⟨q4, _, _, _, p5, _, n0, n1, t5⟩ := numE_got hb h5
        subst q4
        obtain ⟨q3, _, _, _, p4, _, m0, m1, t4⟩ := numE_got hb h4
        subst q3
        obtain ⟨q2, _, _, _, p3, _, c0, c1', t3⟩ := numE_got hb h3
        subst q2
        obtain ⟨q1, g2, _, _, p2, _, t2⟩ := textE_got hb h2
        subst q1
        obtain ⟨_, _, _, _, p1, _, _, _, t1⟩ := numE_got hb h1
        have w8 : (256 : Int) ^ (Int.toNat 8) = 18446744073709551616 := by decide
        rw [w8] at l1 n1 m1 c1'
        obtain ⟨_, _, ⟨x1, x2⟩, ⟨y1, y2⟩, ⟨z1, z2⟩, u1, u2⟩ := id hR
        have ec : wrap64 c = c := by unfold wrap64 at *; omega
        have em : wrap64 m = m := by unfold wrap64 at *; omega
        have en : wrap64 n = n := by unfold wrap64 at *; omega
        have el : wrap64 l = l := by unfold wrap64 at *; omega
        rw [ec, em, en, el]
        have ha7' : a7 = B.length := ha7
        have hall : B.take a7.toNat = B := List.take_of_length_le (by omega)
        rw [← hall, t7, t6, t5, t4, t3, t2, t1, c1]
        rfl
      · exact ⟨_, run _ (Ev.iteT hend (Ev.bind0 (Right_eq k v _ _ _ _) (rj0 (Ev.iteF (by simpa using hR) (Ev.now _))))), Or.inr (Or.inr rfl)⟩
    · exact ⟨_, run _ (Ev.iteF hend (rj0 (Ev.iteF (by decide) (Ev.now _)))), Or.inr (Or.inr rfl)⟩
  · by_cases c2 : v1 = 2
    · by_cases hend : endE B a2 e2 = 0
      · by_cases hN : Named k
        · refine ⟨_, Ev.bind0 (New_eq _ (by omega)) (Ev.bind E1 (Ev.bind E2 (Ev.iteF c1 (Ev.iteT c2 (Ev.bind0 (End_eq B a2 e2) (Ev.iteT hend (Ev.bind0 (key_eq k) (rj1 (Ev.iteT (by simpa using hN) (Ev.now _)))))))))), Or.inr (Or.inl ⟨k, hN, b2, ?_, rfl⟩)⟩
          obtain ⟨q2, ha2⟩ := endE_got r2.2 hend
          subst q2
          obtain ⟨q1, g2, _, _, p2, _, t2⟩ := textE_got hb h2
          subst q1
          obtain ⟨_, _, _, _, p1, _, _, _, t1⟩ := numE_got hb h1
          have ha2' : a2 = B.length := ha2
          have hall : B.take a2.toNat = B := List.take_of_length_le (by omega)
          rw [← hall, t2, t1, c2]
          rfl
        · exact ⟨_, Ev.bind0 (New_eq _ (by omega)) (Ev.bind E1 (Ev.bind E2 (Ev.iteF c1 (Ev.iteT c2 (Ev.bind0 (End_eq B a2 e2) (Ev.iteT hend (Ev.bind0 (key_eq k) (rj1 (Ev.iteF (by simpa using hN) (Ev.now _)))))))))), Or.inr (Or.inr rfl)⟩
      · exact ⟨_, Ev.bind0 (New_eq _ (by omega)) (Ev.bind E1 (Ev.bind E2 (Ev.iteF c1 (Ev.iteT c2 (Ev.bind0 (End_eq B a2 e2) (Ev.iteF hend (rj1 (Ev.iteF (by decide) (Ev.now _))))))))), Or.inr (Or.inr rfl)⟩
    · exact ⟨_, Ev.bind0 (New_eq _ (by omega)) (Ev.bind E1 (Ev.bind E2 (Ev.iteF c1 (Ev.iteF c2 (Ev.now _))))), Or.inr (Or.inr rfl)⟩
theorem ref_dec : ∃ r : Res Bool, Ev (fun q => terrierref13_Decode.f q B) r ∧
    ((∃ k v c m n l, RightP k v c m n l ∧ Bytes k ∧ Bytes v ∧ B = recE k v c m n l ∧ r = (k, v, c, m, n, l, false, true)) ∨ (∃ k, Named k ∧ Bytes k ∧ B = tombE k ∧ r = (k, [], 0, 0, 0, 0, true, true)) ∨ r = ([], [], 0, 0, 0, 0, false, false)) := by
  have hl' : B.length ≤ 140737488351232 := by omega
  unfold terrierref13_Decode.f
  by_cases h0 : (B.length : Int) = 0
  · exact ⟨_, Ev.iteT h0 (Ev.now _), Or.inr (Or.inr rfl)⟩
  rcases h2 : textE B 1 0 64 with ⟨k, a2, e2⟩
  have r2 := textE_at_le hb (a := 1) (e := 0) (n := 64) (by omega) (by omega)
  have E2 := refText_ev B hb hl' 1 0 64 (by omega) (by omega) (by omega)
  have b2 := textE_bytes hb 1 0 64
  have g2 := textE_len (B := B) 1 0 64 (by omega)
  rw [h2] at r2 E2 b2 g2
  dsimp only at g2
  by_cases c1 : rd B 0 = 2
  · by_cases ce : e2 = 0
    · by_cases ck : (k.length : Int) > 0
      · by_cases cs : tombE k = B
        · refine ⟨_, Ev.iteF h0 (Ev.step (fun q => by rw [terrierref13_Decode.j0]) ?_), Or.inr (Or.inl ⟨k, ⟨by omega, by omega⟩, b2, cs.symm, rfl⟩)⟩
          exact Ev.bind E2 (Ev.iteT (by omega) (Ev.iteT c1 (Ev.iteT ce (Ev.iteT ck (Ev.bind (refTomb_ev k (by omega)) (Ev.bind0 (Same_eq (tombE_bytes b2) hb) (dj1 (Ev.iteT (by simpa using cs) (Ev.now _)))))))))
        · refine ⟨_, Ev.iteF h0 (Ev.step (fun q => by rw [terrierref13_Decode.j0]) ?_), Or.inr (Or.inr rfl)⟩
          exact Ev.bind E2 (Ev.iteT (by omega) (Ev.iteT c1 (Ev.iteT ce (Ev.iteT ck (Ev.bind (refTomb_ev k (by omega)) (Ev.bind0 (Same_eq (tombE_bytes b2) hb) (dj1 (Ev.iteF (by simpa using cs) (Ev.now _)))))))))
      · refine ⟨_, Ev.iteF h0 (Ev.step (fun q => by rw [terrierref13_Decode.j0]) ?_), Or.inr (Or.inr rfl)⟩
        exact Ev.bind E2 (Ev.iteT (by omega) (Ev.iteT c1 (Ev.iteT ce (Ev.iteF ck (dj1 (Ev.iteF (by decide) (Ev.now _)))))))
    · refine ⟨_, Ev.iteF h0 (Ev.step (fun q => by rw [terrierref13_Decode.j0]) ?_), Or.inr (Or.inr rfl)⟩
      exact Ev.bind E2 (Ev.iteT (by omega) (Ev.iteT c1 (Ev.iteF ce (dj1 (Ev.iteF (by decide) (Ev.now _))))))
  · rcases h3 : numE B a2 e2 8 with ⟨c, a3, e3⟩
    have r3 := numE_at_le (B := B) (a := a2) (e := e2) (sz := 8) r2.1 r2.2
    have E3 := refNum_ev B hb hl' a2 e2 8 r2.1 r2.2 (by omega)
    rw [h3] at r3 E3
    rcases h4 : numE B a3 e3 8 with ⟨m, a4, e4⟩
    have r4 := numE_at_le (B := B) (a := a3) (e := e3) (sz := 8) r3.1 r3.2
    have E4 := refNum_ev B hb hl' a3 e3 8 r3.1 r3.2 (by omega)
    rw [h4] at r4 E4
    rcases h5 : numE B a4 e4 8 with ⟨n, a5, e5⟩
    have r5 := numE_at_le (B := B) (a := a4) (e := e4) (sz := 8) r4.1 r4.2
    have E5 := refNum_ev B hb hl' a4 e4 8 r4.1 r4.2 (by omega)
    rw [h5] at r5 E5
    rcases h6 : numE B a5 e5 8 with ⟨l, a6, e6⟩
    have r6 := numE_at_le (B := B) (a := a5) (e := e5) (sz := 8) r5.1 r5.2
    have E6 := refNum_ev B hb hl' a5 e5 8 r5.1 r5.2 (by omega)
    rw [h6] at r6 E6
    rcases h7 : textE B a6 e6 1024 with ⟨v, a7, e7⟩
    have r7 := textE_at_le hb (a := a6) (e := e6) (n := 1024) r6.1 r6.2
    have E7 := refText_ev B hb hl' a6 e6 1024 r6.1 r6.2 (by omega)
    have b7 := textE_bytes hb a6 e6 1024
    rw [h7] at r7 E7 b7
    by_cases ce : e7 = 0
    · by_cases hR : RightP k v (wrap64 c) (wrap64 m) (wrap64 n) (wrap64 l)
      · by_cases cs : recE k v (wrap64 c) (wrap64 m) (wrap64 n) (wrap64 l) = B
        · refine ⟨_, Ev.iteF h0 (Ev.step (fun q => by rw [terrierref13_Decode.j0]) ?_), Or.inl ⟨k, v, _, _, _, _, hR, b2, b7, cs.symm, rfl⟩⟩
          refine Ev.bind E2 (Ev.iteT (by omega) (Ev.iteF c1 (Ev.step (fun q => by rw [terrierref13_Decode.j2]) ?_)))
          exact Ev.bind E3 (Ev.bind E4 (Ev.bind E5 (Ev.bind E6 (Ev.bind E7 (Ev.iteT ce (Ev.bind0 (refRight_eq k v _ _ _ _) (Ev.iteT (by simpa using hR) (Ev.bind (refEncode_ev k v _ _ _ _ hR) (Ev.bind0 (Same_eq (recE_bytes b2 b7 _ _ _ _) hb) (dj3 (Ev.iteF (by simpa using cs) (Ev.now _))))))))))))
        · refine ⟨_, Ev.iteF h0 (Ev.step (fun q => by rw [terrierref13_Decode.j0]) ?_), Or.inr (Or.inr rfl)⟩
          refine Ev.bind E2 (Ev.iteT (by omega) (Ev.iteF c1 (Ev.step (fun q => by rw [terrierref13_Decode.j2]) ?_)))
          exact Ev.bind E3 (Ev.bind E4 (Ev.bind E5 (Ev.bind E6 (Ev.bind E7 (Ev.iteT ce (Ev.bind0 (refRight_eq k v _ _ _ _) (Ev.iteT (by simpa using hR) (Ev.bind (refEncode_ev k v _ _ _ _ hR) (Ev.bind0 (Same_eq (recE_bytes b2 b7 _ _ _ _) hb) (dj3 (Ev.iteT (by simpa using cs) (Ev.now _))))))))))))
      · refine ⟨_, Ev.iteF h0 (Ev.step (fun q => by rw [terrierref13_Decode.j0]) ?_), Or.inr (Or.inr rfl)⟩
        refine Ev.bind E2 (Ev.iteT (by omega) (Ev.iteF c1 (Ev.step (fun q => by rw [terrierref13_Decode.j2]) ?_)))
        exact Ev.bind E3 (Ev.bind E4 (Ev.bind E5 (Ev.bind E6 (Ev.bind E7 (Ev.iteT ce (Ev.bind0 (refRight_eq k v _ _ _ _) (Ev.iteF (by simpa using hR) (dj3 (Ev.iteT rfl (Ev.now _))))))))))
    · refine ⟨_, Ev.iteF h0 (Ev.step (fun q => by rw [terrierref13_Decode.j0]) ?_), Or.inr (Or.inr rfl)⟩
      refine Ev.bind E2 (Ev.iteT (by omega) (Ev.iteF c1 (Ev.step (fun q => by rw [terrierref13_Decode.j2]) ?_)))
      exact Ev.bind E3 (Ev.bind E4 (Ev.bind E5 (Ev.bind E6 (Ev.bind E7 (Ev.iteF ce (dj3 (Ev.iteT rfl (Ev.now _))))))))
end
/-! an encoding is accepted -/
section
variable (k v : List Int) (c m n l : Int) (hk : Bytes k) (hv : Bytes v)
include hk
theorem real_tomb (hN : Named k) : Ev (fun q => record_Decode.f q (tombE k)) (k, [], 0, 0, 0, 0, true, 0) := by
  obtain ⟨n1, n2⟩ := id hN
  have hb := tombE_bytes hk
  have hl := tombE_length k
  have hl' : (tombE k).length ≤ 140737488351232 := by omega
  have p1 : (256 : Int) ^ 1 = 256 := by decide
  have E1 := Num_ev (tombE k) hb hl' 0 0 1 (by omega) (by omega) (by omega)
  rw [numE_at (p := []) (q := putB (k.length : Int) 2 ++ k) (n := 2) (d := 1) (by simp [tombE, one_byte]) (by omega) (by omega) (by omega) (by omega) 0 1 rfl rfl] at E1
  have E2 := Text_ev (tombE k) hb hl' (0 + ((1 : Nat) : Int)) 0 64 (by omega) (by omega)
  rw [textE_at (p := [2]) (t := k) (q := []) (by simp [tombE]) (by omega) 64 (by omega) _ (by simp)] at E2
  unfold record_Decode.f
  refine Ev.bind0 (New_eq _ (by omega)) (Ev.bind E1 (Ev.bind E2 (Ev.iteF (by decide) (Ev.iteT rfl (Ev.bind0 (End_eq _ _ _) (Ev.iteT (endE_at (by rw [hl]; simp <;> omega)) (Ev.bind0 (key_eq k) (rj1 (Ev.iteT (by simpa using hN) (Ev.now _))))))))))
theorem ref_tomb (hN : Named k) : Ev (fun q => terrierref13_Decode.f q (tombE k)) (k, [], 0, 0, 0, 0, true, true) := by
  obtain ⟨n1, n2⟩ := id hN
  have hb := tombE_bytes hk
  have hl := tombE_length k
  have hl' : (tombE k).length ≤ 140737488351232 := by omega
  have E2 := refText_ev (tombE k) hb hl' 1 0 64 (by omega) (by omega) (by omega)
  rw [textE_at (p := [2]) (t := k) (q := []) (by simp [tombE]) (by omega) 64 (by omega) _ (by simp)] at E2
  unfold terrierref13_Decode.f
  refine Ev.iteF (by omega) (Ev.step (fun q => by rw [terrierref13_Decode.j0]) ?_)
  exact Ev.bind E2 (Ev.iteT (by omega) (Ev.iteT (by simp [tombE, rd]) (Ev.iteT rfl (Ev.iteT (show (k.length : Int) > 0 by omega) (Ev.bind (refTomb_ev k (by omega)) (Ev.bind0 (Same_self _) (dj1 (Ev.iteT rfl (Ev.now _)))))))))
include hv
theorem real_rec (hR : RightP k v c m n l) : Ev (fun q => record_Decode.f q (recE k v c m n l)) (k, v, c, m, n, l, false, 0) := by
  obtain ⟨⟨n1, n2⟩, v1, ⟨c1, c2⟩, ⟨m1, m2⟩, ⟨a1, a2⟩, l1, l2⟩ := id hR
  have hb := recE_bytes hk hv c m n l
  have hl := recE_length k v c m n l
  have p1 : (256 : Int) ^ 1 = 256 := by decide
  have p8 := pow256_8
  have e : recE k v c m n l = [1] ++ putB (k.length : Int) 2 ++ k ++ putB c 8 ++ putB m 8 ++ putB n 8 ++ putB l 8 ++ putB (v.length : Int) 2 ++ v := rfl
  generalize recE k v c m n l = B at hb hl e
  have hl' : B.length ≤ 140737488351232 := by omega
  have w := fun (z : Int) (z0 : 0 ≤ z) (z1 : z ≤ 4611686018427387904) => wrap64_id (n := z) (by omega) (by omega)
  have E1 := Num_ev B hb hl' 0 0 1 (by omega) (by omega) (by omega)
  rw [numE_at (p := []) (q := putB (k.length : Int) 2 ++ k ++ putB c 8 ++ putB m 8 ++ putB n 8 ++ putB l 8 ++ putB (v.length : Int) 2 ++ v) (n := 1) (d := 1) (by rw [e]; simp [one_byte]) (by omega) (by omega) (by omega) (by omega) 0 1 rfl rfl] at E1
  have E2 := Text_ev B hb hl' (0 + ((1 : Nat) : Int)) 0 64 (by omega) (by omega)
  rw [textE_at (p := [1]) (t := k) (q := putB c 8 ++ putB m 8 ++ putB n 8 ++ putB l 8 ++ putB (v.length : Int) 2 ++ v) (by rw [e]; simp) (by omega) 64 (by omega) _ (by simp)] at E2
  have E3 := Num_ev B hb hl' (0 + ((1 : Nat) : Int) + 2 + k.length) 0 8 (by omega) (by omega) (by omega)
  rw [numE_at (p := [1] ++ putB (k.length : Int) 2 ++ k) (q := putB m 8 ++ putB n 8 ++ putB l 8 ++ putB (v.length : Int) 2 ++ v) (n := c) (d := 8) (by rw [e]; simp) (by omega) (by omega) (by omega) (by omega) _ 8 (by simp [putB_length]; omega) rfl] at E3
  have E4 := Num_ev B hb hl' (0 + ((1 : Nat) : Int) + 2 + k.length + ((8 : Nat) : Int)) 0 8 (by omega) (by omega) (by omega)
  rw [numE_at (p := [1] ++ putB (k.length : Int) 2 ++ k ++ putB c 8) (q := putB n 8 ++ putB l 8 ++ putB (v.length : Int) 2 ++ v) (n := m) (d := 8) (by rw [e]; simp) (by omega) (by omega) (by omega) (by omega) _ 8 (by simp [putB_length]; omega) rfl] at E4
  have E5 := Num_ev B hb hl' (0 + ((1 : Nat) : Int) + 2 + k.length + ((8 : Nat) : Int) + ((8 : Nat) : Int)) 0 8 (by omega) (by omega) (by omega)
  rw [numE_at (p := [1] ++ putB (k.length : Int) 2 ++ k ++ putB c 8 ++ putB m 8) (q := putB l 8 ++ putB (v.length : Int) 2 ++ v) (n := n) (d := 8) (by rw [e]; simp) (by omega) (by omega) (by omega) (by omega) _ 8 (by simp [putB_length]; omega) rfl] at E5
  have E6 := Num_ev B hb hl' (0 + ((1 : Nat) : Int) + 2 + k.length + ((8 : Nat) : Int) + ((8 : Nat) : Int) + ((8 : Nat) : Int)) 0 8 (by omega) (by omega) (by omega)
  rw [numE_at (p := [1] ++ putB (k.length : Int) 2 ++ k ++ putB c 8 ++ putB m 8 ++ putB n 8) (q := putB (v.length : Int) 2 ++ v) (n := l) (d := 8) (by rw [e]; simp) (by omega) (by omega) (by omega) (by omega) _ 8 (by simp [putB_length]; omega) rfl] at E6
  have E7 := Text_ev B hb hl' (0 + ((1 : Nat) : Int) + 2 + k.length + ((8 : Nat) : Int) + ((8 : Nat) : Int) + ((8 : Nat) : Int) + ((8 : Nat) : Int)) 0 1024 (by omega) (by omega)
  rw [textE_at (p := [1] ++ putB (k.length : Int) 2 ++ k ++ putB c 8 ++ putB m 8 ++ putB n 8 ++ putB l 8) (t := v) (q := []) (by rw [e]; simp) (by omega) 1024 (by omega) _ (by simp [putB_length]; omega)] at E7
  unfold record_Decode.f
  refine Ev.bind0 (New_eq _ (by omega)) (Ev.bind E1 (Ev.bind E2 (Ev.iteT rfl (Ev.bind E3 (Ev.bind E4 (Ev.bind E5 (Ev.bind E6 (Ev.bind E7 (Ev.bind0 (End_eq _ _ _) (Ev.iteT (endE_at (by rw [hl]; simp <;> omega)) ?_))))))))))
  dsimp only
  rw [w c (by omega) c2, w m (by omega) m2, w n (by omega) a2, w l l1 l2]
  exact Ev.bind0 (Right_eq k v c m n l) (rj0 (Ev.iteT (by simpa using hR) (Ev.now _)))
theorem ref_rec (hR : RightP k v c m n l) : Ev (fun q => terrierref13_Decode.f q (recE k v c m n l)) (k, v, c, m, n, l, false, true) := by
  obtain ⟨⟨n1, n2⟩, v1, ⟨c1, c2⟩, ⟨m1, m2⟩, ⟨a1, a2⟩, l1, l2⟩ := id hR
  have hb := recE_bytes hk hv c m n l
  have hl := recE_length k v c m n l
  have p8 := pow256_8
  have e : recE k v c m n l = [1] ++ putB (k.length : Int) 2 ++ k ++ putB c 8 ++ putB m 8 ++ putB n 8 ++ putB l 8 ++ putB (v.length : Int) 2 ++ v := rfl
  have hE := refEncode_ev k v c m n l hR
  generalize recE k v c m n l = B at hb hl e hE
  have hl' : B.length ≤ 140737488351232 := by omega
  have w := fun (z : Int) (z0 : 0 ≤ z) (z1 : z ≤ 4611686018427387904) => wrap64_id (n := z) (by omega) (by omega)
  have E2 := refText_ev B hb hl' 1 0 64 (by omega) (by omega) (by omega)
  rw [textE_at (p := [1]) (t := k) (q := putB c 8 ++ putB m 8 ++ putB n 8 ++ putB l 8 ++ putB (v.length : Int) 2 ++ v) (by rw [e]; simp) (by omega) 64 (by omega) _ (by simp)] at E2
  have E3 := refNum_ev B hb hl' (1 + 2 + k.length) 0 8 (by omega) (by omega) (by omega)
  rw [numE_at (p := [1] ++ putB (k.length : Int) 2 ++ k) (q := putB m 8 ++ putB n 8 ++ putB l 8 ++ putB (v.length : Int) 2 ++ v) (n := c) (d := 8) (by rw [e]; simp) (by omega) (by omega) (by omega) (by omega) _ 8 (by simp [putB_length]; omega) rfl] at E3
  have E4 := refNum_ev B hb hl' (1 + 2 + k.length + ((8 : Nat) : Int)) 0 8 (by omega) (by omega) (by omega)
  rw [numE_at (p := [1] ++ putB (k.length : Int) 2 ++ k ++ putB c 8) (q := putB n 8 ++ putB l 8 ++ putB (v.length : Int) 2 ++ v) (n := m) (d := 8) (by rw [e]; simp) (by omega) (by omega) (by omega) (by omega) _ 8 (by simp [putB_length]; omega) rfl] at E4
  have E5 := refNum_ev B hb hl' (1 + 2 + k.length + ((8 : Nat) : Int) + ((8 : Nat) : Int)) 0 8 (by omega) (by omega) (by omega)
  rw [numE_at (p := [1] ++ putB (k.length : Int) 2 ++ k ++ putB c 8 ++ putB m 8) (q := putB l 8 ++ putB (v.length : Int) 2 ++ v) (n := n) (d := 8) (by rw [e]; simp) (by omega) (by omega) (by omega) (by omega) _ 8 (by simp [putB_length]; omega) rfl] at E5
  have E6 := refNum_ev B hb hl' (1 + 2 + k.length + ((8 : Nat) : Int) + ((8 : Nat) : Int) + ((8 : Nat) : Int)) 0 8 (by omega) (by omega) (by omega)
  rw [numE_at (p := [1] ++ putB (k.length : Int) 2 ++ k ++ putB c 8 ++ putB m 8 ++ putB n 8) (q := putB (v.length : Int) 2 ++ v) (n := l) (d := 8) (by rw [e]; simp) (by omega) (by omega) (by omega) (by omega) _ 8 (by simp [putB_length]; omega) rfl] at E6
  have E7 := refText_ev B hb hl' (1 + 2 + k.length + ((8 : Nat) : Int) + ((8 : Nat) : Int) + ((8 : Nat) : Int) + ((8 : Nat) : Int)) 0 1024 (by omega) (by omega) (by omega)
  rw [textE_at (p := [1] ++ putB (k.length : Int) 2 ++ k ++ putB c 8 ++ putB m 8 ++ putB n 8 ++ putB l 8) (t := v) (q := []) (by rw [e]; simp) (by omega) 1024 (by omega) _ (by simp [putB_length]; omega)] at E7
  unfold terrierref13_Decode.f
  refine Ev.iteF (by omega) (Ev.step (fun q => by rw [terrierref13_Decode.j0]) ?_)
  refine Ev.bind E2 (Ev.iteT (by omega) (Ev.iteF (by rw [e]; simp [rd]) (Ev.step (fun q => by rw [terrierref13_Decode.j2]) ?_)))
  refine Ev.bind E3 (Ev.bind E4 (Ev.bind E5 (Ev.bind E6 (Ev.bind E7 (Ev.iteT rfl ?_)))))
  dsimp only
  rw [w c (by omega) c2, w m (by omega) m2, w n (by omega) a2, w l l1 l2]
  exact Ev.bind0 (refRight_eq k v c m n l) (Ev.iteT (by simpa using hR) (Ev.bind hE (Ev.bind0 (Same_self _) (dj3 (Ev.iteF (by decide) (Ev.now _))))))
end
theorem RecordReads : terrierlaw13_RecordReads.Pure := by
  intro B _ hB2 hwf
  have hb : Bytes B := bytes_of_wf hwf
  refine Ev.rounds ?_
  unfold terrierlaw13_RecordReads.f
  refine Ev.bind lives_ev (Ev.iteT rfl ?_)
  by_cases hl : (B.length : Int) > 2000
  · rw [decide_eq_true hl]
    exact Ev.step (fun q => by rw [terrierlaw13_RecordReads.j0]) (Ev.iteT rfl (Ev.bind lives_ev (Ev.now _)))
  rw [decide_eq_false hl]
  refine Ev.step (fun q => by rw [terrierlaw13_RecordReads.j0]) (Ev.iteF (by decide) (Ev.step (fun q => by rw [terrierlaw13_RecordReads.j1]) ?_))
  obtain ⟨r, hr, hrc⟩ := real_dec B hb (by omega)
  obtain ⟨s, hs, hsc⟩ := ref_dec B hb (by omega)
  refine Ev.bind0 (Twin_eq (by omega)) (Ev.bind hr (Ev.bind hs ?_))
  rcases hrc with ⟨k, v, c, m, n, l, hR, hk, hv, e, rfl⟩ | ⟨k, hN, hk, e, rfl⟩ | rfl
  · have h2 := ref_rec k v c m n l hk hv hR
    rw [← e] at h2
    obtain rfl := ev_eq hs h2
    refine Ev.bind0 (refSame_eq hk hv hk hv c m n l c m n l) (Ev.iteT (by rw [sameR_self]) (Ev.iteT rfl (Ev.iteT rfl (Ev.iteT rfl (Ev.bind0 (Same_self _) (Ev.now _))))))
  · have h2 := ref_tomb k hk hN
    rw [← e] at h2
    obtain rfl := ev_eq hs h2
    refine Ev.bind0 (refSame_eq hk bytes_nil hk bytes_nil 0 0 0 0 0 0 0 0) (Ev.iteT (by rw [sameR_self]) (Ev.iteT rfl (Ev.iteT rfl (Ev.iteT rfl (Ev.bind0 (Same_self _) (Ev.now _))))))
  · rcases hsc with ⟨k, v, c, m, n, l, hR, hk, hv, e, rfl⟩ | ⟨k, hN, hk, e, rfl⟩ | rfl
    · have h2 := real_rec k v c m n l hk hv hR
      rw [← e] at h2
      have h3 := ev_eq hr h2
      simp at h3
    · have h2 := real_tomb k hk hN
      rw [← e] at h2
      have h3 := ev_eq hr h2
      simp at h3
    · refine Ev.bind0 (refSame_eq bytes_nil bytes_nil bytes_nil bytes_nil 0 0 0 0 0 0 0 0) (Ev.iteT (by rw [sameR_self]) (Ev.iteT rfl (Ev.iteF (by decide) (Ev.iteT rfl (Ev.bind0 (Same_self _) (Ev.now _))))))
end Go.Proofs.Ytapmgeofbjgalaa.Pure
