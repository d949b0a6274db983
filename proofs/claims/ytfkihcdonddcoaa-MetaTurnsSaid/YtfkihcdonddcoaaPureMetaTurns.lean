/- While a meta is written over the elder one the last one or the new one counts: the plain statement that is left of the law MetaTurns. -/
import Derived.Test.YtfkihcdonddcoaaOctMetaTurns
import Derived.Test.YtfkihcdonddcoaaMetMetaTurns
import Derived.Test.YtfkihcdonddcoaaPTx15
namespace Go.Proofs.Ytfkihcdonddcoaa.Pure
open Go.RowKit Go.Proofs.YtfkihcdonddcoaaW.PrintWords Go.Proofs.YtfkihcdonddcoaaW.PrintLast Go.Proofs.YtfkihcdonddcoaaW.PrintMore Go.Proofs.Ytfkihcdonddcoaa.PT Go.Proofs.Ytfkihcdonddcoaa.Base Go.Proofs.Ytfkihcdonddcoaa.Oct Go.Proofs.Ytfkihcdonddcoaa.Sum Go.Proofs.Ytfkihcdonddcoaa.Met
/-! ### torn pages -/
theorem torn_drop {a c : List Int} {m n : Nat} (hc : m ≤ c.length) (h : m ≤ n) : (c.take m ++ a.drop m).drop n = a.drop n := by
  have hl : (c.take m).length = m := by rw [List.length_take]; omega
  rw [List.drop_append, hl, List.drop_eq_nil_of_le (by omega), List.nil_append, List.drop_drop]
  congr 1
  omega
theorem torn_take {a c : List Int} {m n : Nat} (hc : m ≤ c.length) (h : n ≤ m) : (c.take m ++ a.drop m).take n = c.take n := by
  have hl : (c.take m).length = m := by rw [List.length_take]; omega
  rw [List.take_append_of_le_length (by omega), List.take_take, Nat.min_eq_left h]
def restM (t r s z : Int) : List Int := [84, 69, 82, 82, 1] ++ putB r 4 ++ putB s 4 ++ putB z 4 ++ List.replicate 218 0 ++ putB t 8
def frontM (t r s z : Int) : List Int := [9] ++ putB t 8 ++ [84, 69, 82, 82, 1] ++ putB r 4 ++ putB s 4 ++ putB z 4 ++ List.replicate 218 0
theorem body_rest (t r s z : Int) : bodyM t r s z = ([9] ++ putB t 8) ++ restM t r s z := by simp only [bodyM, restM, List.append_assoc]
theorem body_front (t r s z : Int) : bodyM t r s z = frontM t r s z ++ putB t 8 := rfl
theorem front_length (t r s z : Int) : (frontM t r s z).length = 244 := by simp only [frontM, List.length_append, putB_length, List.length_replicate, List.length_cons, List.length_nil]
theorem drop13 (t r s z : Int) : (metaE t r s z).drop 13 = restM t r s z := by
  have h : (metaE t r s z).drop 13 = ((metaE t r s z).drop 4).drop 9 := by rw [List.drop_drop]
  rw [h, metaE_drop, body_rest, List.drop_left' (by simp [putB_length])]
theorem drop248 (t r s z : Int) : (metaE t r s z).drop 248 = putB t 8 := by
  have h : (metaE t r s z).drop 248 = ((metaE t r s z).drop 4).drop 244 := by rw [List.drop_drop]
  rw [h, metaE_drop, body_front, List.drop_left' (front_length t r s z)]
theorem front_of (t r s z : Int) : ((metaE t r s z).take 248).drop 4 = frontM t r s z := by
  rw [List.drop_take, metaE_drop, body_front, List.take_left' (front_length t r s z)]
theorem txn_of (t r s z : Int) : ((metaE t r s z).take 13).drop 4 = [9] ++ putB t 8 := by
  rw [List.drop_take, metaE_drop, body_rest, List.take_left' (by simp [putB_length])]
theorem put8_inj {n m : Int} (h0 : 0 ≤ n) (h1 : n < 18446744073709551616) (k0 : 0 ≤ m) (k1 : m < 18446744073709551616) (h : putB n 8 = putB m 8) : n = m := by
  have := putB_inj h
  rw [pow256_8] at this
  omega
theorem put4_inj {n m : Int} (h0 : 0 ≤ n) (h1 : n < 4294967296) (k0 : 0 ≤ m) (k1 : m < 4294967296) (h : putB n 4 = putB m 4) : n = m := by
  have := putB_inj h
  rw [show (256 : Int) ^ 4 = 4294967296 by decide] at this
  omega
section
variable {t r s z t' r' s' z' : Int}
theorem tail_inj (h : Fit t r s z) (h' : Fit t' r' s' z') (e : (metaE t r s z).drop 13 = (metaE t' r' s' z').drop 13) : (t, r, s, z) = (t', r', s', z') := by
  obtain ⟨t0, t1, hr⟩ := h
  obtain ⟨⟨r0, r1⟩, ⟨s0, s1⟩, z0, z1⟩ := hr.low
  obtain ⟨t0', t1', hr'⟩ := h'
  obtain ⟨⟨r0', r1'⟩, ⟨s0', s1'⟩, z0', z1'⟩ := hr'.low
  rw [drop13, drop13] at e
  unfold restM at e
  obtain ⟨e, et⟩ := List.append_inj' e (by rw [putB_length, putB_length])
  obtain ⟨e, _⟩ := List.append_inj' e rfl
  obtain ⟨e, ez⟩ := List.append_inj' e (by rw [putB_length, putB_length])
  obtain ⟨e, es⟩ := List.append_inj' e (by rw [putB_length, putB_length])
  obtain ⟨_, er⟩ := List.append_inj' e (by rw [putB_length, putB_length])
  rw [put8_inj t0 t1 t0' t1' et, put4_inj r0 (by omega) r0' (by omega) er, put4_inj s0 (by omega) s0' (by omega) es, put4_inj z0 (by omega) z0' (by omega) ez]
theorem front_inj (h : Fit t r s z) (h' : Fit t' r' s' z') (e : (metaE t r s z).take 248 = (metaE t' r' s' z').take 248) : (t, r, s, z) = (t', r', s', z') := by
  obtain ⟨t0, t1, hr⟩ := h
  obtain ⟨⟨r0, r1⟩, ⟨s0, s1⟩, z0, z1⟩ := hr.low
  obtain ⟨t0', t1', hr'⟩ := h'
  obtain ⟨⟨r0', r1'⟩, ⟨s0', s1'⟩, z0', z1'⟩ := hr'.low
  have e := congrArg (List.drop 4) e
  rw [front_of, front_of] at e
  unfold frontM at e
  obtain ⟨e, _⟩ := List.append_inj' e rfl
  obtain ⟨e, ez⟩ := List.append_inj' e (by rw [putB_length, putB_length])
  obtain ⟨e, es⟩ := List.append_inj' e (by rw [putB_length, putB_length])
  obtain ⟨e, er⟩ := List.append_inj' e (by rw [putB_length, putB_length])
  obtain ⟨e, _⟩ := List.append_inj' e rfl
  obtain ⟨_, et⟩ := List.append_inj' e (by rw [putB_length, putB_length])
  rw [put8_inj t0 t1 t0' t1' et, put4_inj r0 (by omega) r0' (by omega) er, put4_inj s0 (by omega) s0' (by omega) es, put4_inj z0 (by omega) z0' (by omega) ez]
end
/-- A page of two right metas' bytes, with different numbers, is one of them where it is read at all. -/
theorem torn_one {t r s z t1 r1 s1 z1 t3 r3 s3 z3 : Int} (h : Fit t r s z) (h1 : Fit t1 r1 s1 z1) (h3 : Fit t3 r3 s3 z3) (hne : t1 ≠ t3) (m : Nat) (hm : m ≤ 256)
    (e : (metaE t3 r3 s3 z3).take m ++ (metaE t1 r1 s1 z1).drop m = metaE t r s z) : (t, r, s, z) = (t1, r1, s1, z1) ∨ (t, r, s, z) = (t3, r3, s3, z3) := by
  have hc : m ≤ (metaE t3 r3 s3 z3).length := by rw [metaE_length]; omega
  by_cases c1 : m ≤ 13
  · refine Or.inl (tail_inj h h1 ?_)
    rw [← e, torn_drop hc c1]
  · by_cases c2 : m ≤ 248
    · exfalso
      have e1 := torn_drop (a := metaE t1 r1 s1 z1) hc c2
      rw [e, drop248, drop248] at e1
      have e3 := congrArg (List.drop 4) (torn_take (a := metaE t1 r1 s1 z1) (n := 13) hc (by omega))
      rw [e, txn_of, txn_of] at e3
      have e4 := (List.append_inj' e3 (by rw [putB_length, putB_length])).2
      exact hne ((put8_inj h.1 h.2.1 h1.1 h1.2.1 e1).symm.trans (put8_inj h.1 h.2.1 h3.1 h3.2.1 e4))
    · refine Or.inr (front_inj h h3 ?_)
      rw [← e, torn_take hc (by omega)]
/-! ### the law -/
section
variable (n T r2 s2 z2 T' r3 s3 z3 : Int)
theorem J3 : Ev (fun k => terrierlaw05_MetaTurns.j3 k true) true := Ev.step (fun k => by rw [terrierlaw05_MetaTurns.j3]) (Ev.now _)
theorem J2_last (hn : n < 256) : Ev (fun k => terrierlaw05_MetaTurns.j2 k n 0 T r2 s2 z2 T' r3 s3 z3 T r2 s2 z2) true := by
  refine Ev.step (fun k => by rw [terrierlaw05_MetaTurns.j2]) ?_
  exact Ev.iteT rfl (Ev.iteT (by simp) (Ev.iteT hn J3))
theorem J2_next (hT : T' ≠ T) : Ev (fun k => terrierlaw05_MetaTurns.j2 k n 0 T r2 s2 z2 T' r3 s3 z3 T' r3 s3 z3) true := by
  refine Ev.step (fun k => by rw [terrierlaw05_MetaTurns.j2]) ?_
  refine Ev.iteT rfl (Ev.iteF (by simp [hT]) (Ev.iteT (by simp) ?_))
  by_cases hn : n < 256
  · exact Ev.iteT hn J3
  · simp only [BEq.rfl, Bool.and_self]
    exact Ev.iteF hn J3
end
theorem J1_true (x3 : Int) (a b c : List Int) (T r2 s2 z2 T' r3 s3 z3 : Int) : Ev (fun k => terrierlaw05_MetaTurns.j1 k x3 a b c true T r2 s2 z2 T' r3 s3 z3) true := by
  refine Ev.step (fun k => by rw [terrierlaw05_MetaTurns.j1]) ?_
  exact Ev.iteT rfl (Ev.now _)
theorem J1_false (x3 t1 r1 s1 z1 T r2 s2 z2 t3 r3 s3 z3 : Int) (h1 : Fit t1 r1 s1 z1) (h2 : Fit T r2 s2 z2) (h3 : Fit t3 r3 s3 z3) (d1 : t1 = T - 1) (d3 : t3 = T + 1) :
    Ev (fun k => terrierlaw05_MetaTurns.j1 k x3 (metaE t1 r1 s1 z1) (metaE T r2 s2 z2) (metaE t3 r3 s3 z3) false T r2 s2 z2 t3 r3 s3 z3) true := by
  have u0 : 0 ≤ IntKind.u64.wrap x3 := by rw [wrap_u64]; omega
  have hk : wrap64 (Int.tmod (IntKind.u64.wrap x3) 257) = IntKind.u64.wrap x3 % 257 := by
    rw [Int.tmod_eq_emod_of_nonneg u0]
    exact wrap64_id (by omega) (by omega)
  have k0 : 0 ≤ IntKind.u64.wrap x3 % 257 := by omega
  have k1 : IntKind.u64.wrap x3 % 257 ≤ 256 := by omega
  refine Ev.step (fun k => by rw [terrierlaw05_MetaTurns.j1]) ?_
  refine Ev.iteF (by decide) ?_
  rw [hk]
  generalize IntKind.u64.wrap x3 % 257 = n at k0 k1
  obtain ⟨m, rfl⟩ := Int.eq_ofNat_of_zero_le k0
  have la := metaE_length t1 r1 s1 z1
  have lc := metaE_length t3 r3 s3 z3
  refine Ev.iteT k0 (Ev.iteT (by rw [lc]; exact k1) (Ev.bind0 (Twin_eq (by rw [List.length_take]; omega)) (Ev.iteT (by rw [la]; exact k1) (Ev.bind0 rfl (Ev.iteT (by rw [List.length_take, List.length_drop]; omega) (Ev.bind0 rfl ?_))))))
  rw [Int.toNat_natCast]
  have hb : Bytes ((metaE t3 r3 s3 z3).take m ++ (metaE t1 r1 s1 z1).drop m) := bytes_append.2 ⟨bytes_take (metaE_bytes _ _ _ _) _, bytes_drop (metaE_bytes _ _ _ _) _⟩
  obtain ⟨res, hd, hc⟩ := dec _ hb (by rw [List.length_append, List.length_take, List.length_drop]; omega)
  have full : (m : Int) = 256 → (metaE t3 r3 s3 z3).take m ++ (metaE t1 r1 s1 z1).drop m = metaE t3 r3 s3 z3 := by
    intro h
    rw [List.take_of_length_le (by omega), List.drop_eq_nil_of_le (by omega), List.append_nil]
  have kinds : (res = (t3, r3, s3, z3, 0)) ∨ ((m : Int) < 256 ∧ (res = (t1, r1, s1, z1, 0) ∨ res.2.2.2.2 ≠ 0)) := by
    by_cases c : (m : Int) = 256
    · rw [full c] at hd
      exact Or.inl (ev_eq hd (dec_enc h3))
    · rcases hc with ⟨t, r, s, z, hf, e, rfl⟩ | ⟨e, he, rfl⟩
      · rcases torn_one hf h1 h3 (by omega) m (by omega) e with q | q
        · simp only [Prod.mk.injEq] at q
          obtain ⟨rfl, rfl, rfl, rfl⟩ := q
          exact Or.inr ⟨by omega, Or.inl rfl⟩
        · simp only [Prod.mk.injEq] at q
          obtain ⟨rfl, rfl, rfl, rfl⟩ := q
          exact Or.inl rfl
      · exact Or.inr ⟨by omega, Or.inr he⟩
  generalize (metaE t3 r3 s3 z3).take m ++ (metaE t1 r1 s1 z1).drop m = torn at hd
  have hB := dec_enc h2
  have pT := par h2.1
  have p1 := par h1.1
  have p3 := par h3.1
  refine Ev.bind (Choose_ev _ _ _ _ hd hB) ?_
  by_cases cp : Int.tmod T 2 = 0
  · refine Ev.iteT cp (Ev.bind (Choose_ev _ _ _ _ hB hd) ?_)
    rw [pick_new 0 (0, 0, 0, 0, 7) (T, r2, s2, z2, 0) rfl cp (fun x => by cases x)]
    rcases kinds with rfl | ⟨hm, rfl | hbad⟩
    · rw [pick_new 1 _ _ rfl (by dsimp only; omega) (fun _ => by dsimp only; omega)]
      exact J2_next _ T r2 s2 z2 t3 r3 s3 z3 (by omega)
    · rw [pick_old 1 _ _ rfl (by dsimp only; omega)]
      exact J2_last _ T r2 s2 z2 t3 r3 s3 z3 hm
    · rw [pick_bad 1 _ _ hbad]
      exact J2_last _ T r2 s2 z2 t3 r3 s3 z3 hm
  · refine Ev.iteF cp ?_
    rcases kinds with rfl | ⟨hm, rfl | hbad⟩
    · rw [pick_new 0 (0, 0, 0, 0, 7) (t3, r3, s3, z3, 0) rfl (by dsimp only; omega) (fun x => by cases x), pick_old 1 _ _ rfl (by dsimp only; omega)]
      exact J2_next _ T r2 s2 z2 t3 r3 s3 z3 (by omega)
    · rw [pick_new 0 (0, 0, 0, 0, 7) (t1, r1, s1, z1, 0) rfl (by dsimp only; omega) (fun x => by cases x), pick_new 1 _ _ rfl (by dsimp only; omega) (fun _ => by dsimp only; omega)]
      exact J2_last _ T r2 s2 z2 t3 r3 s3 z3 hm
    · rw [pick_bad 0 _ _ hbad, pick_new 1 _ _ rfl (by dsimp only; omega) (fun x => by cases x)]
      exact J2_last _ T r2 s2 z2 t3 r3 s3 z3 hm
theorem J0_true (x3 : Int) (t1 r1 s1 z1 T r2 s2 z2 T' r3 s3 z3 : Int) : Ev (fun k => terrierlaw05_MetaTurns.j0 k x3 true t1 r1 s1 z1 T r2 s2 z2 T' r3 s3 z3) true := by
  refine Ev.step (fun k => by rw [terrierlaw05_MetaTurns.j0]) ?_
  exact Ev.iteT rfl (Ev.bind lives_ev (Ev.now _))
theorem MetaTurns : terrierlaw05_MetaTurns.Pure := by
  intro t1 r1 s1 z1 T r2 s2 z2 t3 r3 s3 z3 x3 _ h _ _
  have ht := wf_u64.1 h.1
  dsimp only at ht
  refine Ev.rounds ?_
  unfold terrierlaw05_MetaTurns.f
  refine Ev.bind lives_ev (Ev.iteT rfl ?_)
  by_cases c : T = 18446744073709551615
  · exact Ev.iteT c (J0_true _ _ _ _ _ _ _ _ _ _ _ _ _)
  refine Ev.iteF c ?_
  by_cases c0 : T = 0
  · rw [show (T == 0) = true by simp [c0]]
    exact J0_true _ _ _ _ _ _ _ _ _ _ _ _ _
  rw [show (T == 0) = false by simp [c0]]
  refine Ev.step (fun k => by rw [terrierlaw05_MetaTurns.j0]) ?_
  rw [wrap_u64_id (n := T - 1) (by omega) (by omega), wrap_u64_id (n := T + 1) (by omega) (by omega)]
  refine Ev.iteF (by decide) ?_
  have E1 := Encode_ev (T - 1) r1 s1 z1 (by omega) (by omega)
  have E2 := Encode_ev T r2 s2 z2 (by omega) (by omega)
  have E3 := Encode_ev (T + 1) r3 s3 z3 (by omega) (by omega)
  by_cases hr1 : RightM r1 s1 z1
  case neg =>
    rw [if_neg hr1] at E1
    exact Ev.bind E1 (Ev.bind E2 (Ev.bind E3 (Ev.iteF (by decide) (J1_true _ _ _ _ _ _ _ _ _ _ _ _))))
  rw [if_pos hr1] at E1
  by_cases hr2 : RightM r2 s2 z2
  case neg =>
    rw [if_neg hr2] at E2
    exact Ev.bind E1 (Ev.bind E2 (Ev.bind E3 (Ev.iteT rfl (Ev.iteF (by decide) (J1_true _ _ _ _ _ _ _ _ _ _ _ _)))))
  rw [if_pos hr2] at E2
  by_cases hr3 : RightM r3 s3 z3
  case neg =>
    rw [if_neg hr3] at E3
    exact Ev.bind E1 (Ev.bind E2 (Ev.bind E3 (Ev.iteT rfl (Ev.iteT rfl (J1_true _ _ _ _ _ _ _ _ _ _ _ _)))))
  rw [if_pos hr3] at E3
  exact Ev.bind E1 (Ev.bind E2 (Ev.bind E3 (Ev.iteT rfl (Ev.iteT rfl (J1_false x3 (T - 1) r1 s1 z1 T r2 s2 z2 (T + 1) r3 s3 z3 ⟨by omega, by omega, hr1⟩ ⟨by omega, by omega, hr2⟩ ⟨by omega, by omega, hr3⟩ rfl rfl)))))
end Go.Proofs.Ytfkihcdonddcoaa.Pure
