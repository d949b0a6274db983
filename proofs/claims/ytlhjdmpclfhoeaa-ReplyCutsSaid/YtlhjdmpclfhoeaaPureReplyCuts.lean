/- A reply's bytes, cut anywhere, or with anything behind them, are none's: the plain statement that is left of the law ReplyCuts, for every reply, place and row of bytes. -/
import Derived.Test.YtlhjdmpclfhoeaaRepCReplyCuts
import Derived.Test.YtlhjdmpclfhoeaaRepEReplyCuts
import Derived.Test.YtlhjdmpclfhoeaaPKx18
import Derived.Test.YtlhjdmpclfhoeaaPKx19
import Derived.Test.YtlhjdmpclfhoeaaPKx8
import Derived.Test.YtlhjdmpclfhoeaaPKx9
set_option linter.unusedSimpArgs false
namespace Go.Proofs.Ytlhjdmpclfhoeaa.Pure
open Go.RowKit Go.Proofs.YtlhjdmpclfhoeaaW.PrintWords Go.Proofs.YtlhjdmpclfhoeaaW.PrintLast Go.Proofs.YtlhjdmpclfhoeaaW.PrintMore Go.Proofs.Ytlhjdmpclfhoeaa.PK Go.Proofs.Ytlhjdmpclfhoeaa.Base Go.Proofs.Ytlhjdmpclfhoeaa.Oct Go.Proofs.Ytlhjdmpclfhoeaa.RdE Go.Proofs.Ytlhjdmpclfhoeaa.Rep Go.Proofs.Ytlhjdmpclfhoeaa.RepR Go.Proofs.Ytlhjdmpclfhoeaa.RepS Go.Proofs.Ytlhjdmpclfhoeaa.RepC Go.Proofs.Ytlhjdmpclfhoeaa.RepE

abbrev er (x : Int × Int × Int × Int × (List (S79)) × Int × Bool × (List (S79)) × Int × Bool × (List (S27)) × Int × Int × Int × List Int × (List (List Int)) × Int × Int × Int) : Int := x.2.2.2.2.2.2.2.2.2.2.2.2.2.2.2.2.2.2
theorem Decode_ev (l : List Int) (hb : Bytes l) (hl : l.length ≤ 140737488351232) (h50 : (replyR l 0 0).1.f5.length ≤ 50) :
    (endE l (replyR l 0 0).2.1 (replyR l 0 0).2.2 ≠ 0 → ∃ x, Ev (fun k => reply_Decode.f k l) x ∧ er x = 4) ∧
    (endE l (replyR l 0 0).2.1 (replyR l 0 0).2.2 = 0 → encE (replyR l 0 0).1 = (l, 0) → ∃ x, Ev (fun k => reply_Decode.f k l) x ∧ er x = 0) := by
  have hc := reply_cap l 0 0 hb
  have hw := reply_len _ h50
  have hr := reply_ev l hb hl 0 0 (by omega) (by omega)
  generalize replyR l 0 0 = y at *
  have he := Encode_ev y.1 hc.1.1 hc.1.2 (by omega) (by have := hc.2.1; omega) (by have := hc.2.2; omega) (by omega)
  constructor
  · intro h
    refine ⟨(0, 0, 0, 0, [], 0, false, [], 0, false, [], 0, 0, 0, [], [], 0, 0, 4), ?_, rfl⟩
    unfold reply_Decode.f
    refine Ev.bind0 (New_eq l (by omega)) (Ev.bind hr (Ev.bind he (Ev.bind0 (End_eq l y.2.1 y.2.2) (Ev.iteF h ?_))))
    refine Ev.step (fun k => by rw [reply_Decode.j0]) ?_
    exact Ev.iteT rfl (Ev.now _)
  · intro h h2
    refine ⟨(y.1.f0, y.1.f1, y.1.f2, y.1.f3.f0, y.1.f3.f1.f0, y.1.f3.f1.f1, y.1.f3.f1.f2, y.1.f3.f2, y.1.f3.f3, y.1.f4, y.1.f5, y.1.f6, y.1.f7, y.1.f8, y.1.f9, y.1.f10, y.1.f11, y.1.f12, 0), ?_, rfl⟩
    unfold reply_Decode.f
    refine Ev.bind0 (New_eq l (by omega)) (Ev.bind hr (Ev.bind he (Ev.bind0 (End_eq l y.2.1 y.2.2) (Ev.iteT h ?_))))
    rw [h2]
    refine Ev.iteT rfl (Ev.bind0 (a := true) (by unfold bytes_Equal.f; rw [same_self]) ?_)
    refine Ev.step (fun k => by rw [reply_Decode.j0]) ?_
    exact Ev.iteF (by decide) (Ev.now _)
theorem lives_ev : Ev (fun k => terrierlaw20_lives.f k) true := by
  unfold terrierlaw20_lives.f
  have e : encE ⟨5, 0, 7, ⟨0, ⟨[], 0, false⟩, [], 0⟩, false, [], 0, 0, 0, [], [], 0, 0⟩ = ([5, 0, 0, 0, 0, 0, 0, 0, 0, 7, 0, 0, 0, 0, 0, 0, 0, 0], 0) := by decide
  have he := Encode_ev ⟨5, 0, 7, ⟨0, ⟨[], 0, false⟩, [], 0⟩, false, [], 0, 0, 0, [], [], 0, 0⟩ (by decide) (by decide) (by decide) (by decide) (by decide) (by decide)
  rw [e] at he
  refine Ev.bind he ?_
  exact Ev.iteT rfl (Ev.iteT rfl (Ev.iteT (by decide) (Ev.iteT rfl (Ev.iteT (by decide) (Ev.now _)))))
theorem kvs_tot (l : List S79) (_hl : l.length ≤ 140737488355328) : ∃ v, Ev (fun k => terrierlaw20_kvs.f k l) v := by
  have key : ∀ (d i : Nat) (x : Int), i + d = l.length → ∃ v, Ev (fun k => terrierlaw20_kvs.l0 k x l (l.length : Int) i) v := by
    intro d
    induction d with
    | zero =>
      intro i x hi
      refine ⟨x, Ev.step (fun k => by rw [terrierlaw20_kvs.l0]) ?_⟩
      exact Ev.iteF (by omega) (Ev.now _)
    | succ d ih =>
      intro i x hi
      by_cases c : (i : Int) > 100
      · refine ⟨7000, Ev.step (fun k => by rw [terrierlaw20_kvs.l0]) ?_⟩
        exact Ev.iteT (by omega) (Ev.iteT (by omega) (Ev.iteT (by omega) (Ev.iteT c (Ev.now _))))
      by_cases c2 : (wrap64 (x + ((50 + (mn (((rd_T79 l i).f0).length : Int) 5000)) + (mn (((rd_T79 l i).f1).length : Int) 5000)))) > 6000
      · refine ⟨7000, Ev.step (fun k => by rw [terrierlaw20_kvs.l0]) ?_⟩
        exact Ev.iteT (by omega) (Ev.iteT (by omega) (Ev.iteT (by omega) (Ev.iteF c (Ev.iteT c2 (Ev.now _)))))
      obtain ⟨v, hv⟩ := ih (i + 1) (wrap64 (x + ((50 + (mn (((rd_T79 l i).f0).length : Int) 5000)) + (mn (((rd_T79 l i).f1).length : Int) 5000)))) (by omega)
      refine ⟨v, Ev.step (fun k => by rw [terrierlaw20_kvs.l0]) ?_⟩
      refine Ev.iteT (by omega) (Ev.iteT (by omega) (Ev.iteT (by omega) (Ev.iteF c (Ev.iteF c2 ?_))))
      rw [wrapInc (by omega)]
      exact hv
  exact key l.length 0 0 (by omega)
theorem few_keys (l : List (List Int)) (_hl : l.length ≤ 140737488355328) : ∀ (d i : Nat) (x : Int), i + d = l.length → ∃ v, Ev (fun k => terrierlaw20_few.l1 k x l (l.length : Int) i) v := by
  intro d
  induction d with
  | zero =>
    intro i x hi
    refine ⟨decide (x ≤ 7000), Ev.step (fun k => by rw [terrierlaw20_few.l1]) ?_⟩
    exact Ev.iteF (by omega) (Ev.now _)
  | succ d ih =>
    intro i x hi
    obtain ⟨v, hv⟩ := ih (i + 1) (wrap64 (x + (mn ((rd_L1 l i).length : Int) 5000))) (by omega)
    refine ⟨v, Ev.step (fun k => by rw [terrierlaw20_few.l1]) ?_⟩
    refine Ev.iteT (by omega) (Ev.iteT (by omega) (Ev.iteT (by omega) ?_))
    rw [wrapInc (by omega)]
    exact hv
theorem few_all (r : S33) (hl : r.f5.length ≤ 140737488355328) (hk : r.f10.length ≤ 140737488355328) (ha : ∀ t ∈ r.f5, t.f1.f0.length ≤ 140737488355328 ∧ t.f2.length ≤ 140737488355328) : ∀ (d i : Nat) (x : Int), i + d = r.f5.length →
    ∃ v, Ev (fun k => terrierlaw20_few.l0 k x r.f5 (r.f5.length : Int) i r.f0 r.f1 r.f2 r.f3.f0 r.f3.f1.f0 r.f3.f1.f1 r.f3.f1.f2 r.f3.f2 r.f3.f3 r.f4 r.f5 r.f6 r.f7 r.f8 r.f9 r.f10 r.f11 r.f12) v := by
  intro d
  induction d with
  | zero =>
    intro i x hi
    obtain ⟨v, hv⟩ := few_keys r.f10 hk r.f10.length 0 x (by omega)
    refine ⟨v, Ev.step (fun k => by rw [terrierlaw20_few.l0]) ?_⟩
    exact Ev.iteF (by omega) hv
  | succ d ih =>
    intro i x hi
    have hi' : i < r.f5.length := by omega
    have m := ha _ (List.getElem_mem hi')
    obtain ⟨v1, h1⟩ := kvs_tot (r.f5[i]).f1.f0 m.1
    obtain ⟨v2, h2⟩ := kvs_tot (r.f5[i]).f2 m.2
    obtain ⟨v, hv⟩ := ih (i + 1) (wrap64 (x + wrap64 (v1 + v2))) (by omega)
    refine ⟨v, Ev.step (fun k => by rw [terrierlaw20_few.l0]) ?_⟩
    refine Ev.iteT (by omega) (Ev.iteT (by omega) (Ev.iteT (by omega) ?_))
    rw [rd_T27_at _ i hi', wrapInc (by omega)]
    exact Ev.bind h1 (Ev.bind h2 hv)
theorem few_ev (r : S33) (hl : r.f5.length ≤ 140737488355328) (hk : r.f10.length ≤ 140737488355328) (ha : ∀ t ∈ r.f5, t.f1.f0.length ≤ 140737488355328 ∧ t.f2.length ≤ 140737488355328) (h1 : r.f3.f1.f0.length ≤ 140737488355328) (h2 : r.f3.f2.length ≤ 140737488355328) :
    ∃ v, Ev (fun k => terrierlaw20_few.f k r.f0 r.f1 r.f2 r.f3.f0 r.f3.f1.f0 r.f3.f1.f1 r.f3.f1.f2 r.f3.f2 r.f3.f3 r.f4 r.f5 r.f6 r.f7 r.f8 r.f9 r.f10 r.f11 r.f12) v ∧ (v = true → r.f5.length ≤ 50) := by
  obtain ⟨v1, e1⟩ := kvs_tot _ h1
  obtain ⟨v2, e2⟩ := kvs_tot _ h2
  have j0 : ∀ c : Bool, ∃ v, Ev (fun k => terrierlaw20_few.j0 k (wrap64 (v1 + v2)) c r.f0 r.f1 r.f2 r.f3.f0 r.f3.f1.f0 r.f3.f1.f1 r.f3.f1.f2 r.f3.f2 r.f3.f3 r.f4 r.f5 r.f6 r.f7 r.f8 r.f9 r.f10 r.f11 r.f12) v ∧ (c = true → v = false) := by
    intro c
    by_cases hc : c = true
    · refine ⟨false, Ev.step (fun k => by rw [terrierlaw20_few.j0]) ?_, fun _ => rfl⟩
      exact Ev.iteT hc (Ev.now _)
    · obtain ⟨v, hv⟩ := few_all r hl hk ha r.f5.length 0 (wrap64 (v1 + v2)) (by omega)
      refine ⟨v, Ev.step (fun k => by rw [terrierlaw20_few.j0]) ?_, fun h => absurd h hc⟩
      exact Ev.iteF hc hv
  unfold terrierlaw20_few.f
  by_cases c : (r.f5.length : Int) > 50
  · obtain ⟨v, hv, hf⟩ := j0 true
    exact ⟨v, Ev.bind e1 (Ev.bind e2 (Ev.iteT c hv)), fun h => by rw [hf rfl] at h; cases h⟩
  by_cases d : (r.f10.length : Int) > 100
  · obtain ⟨v, hv, hf⟩ := j0 true
    exact ⟨v, Ev.bind e1 (Ev.bind e2 (Ev.iteF c (Ev.iteT d hv))), fun h => by rw [hf rfl] at h; cases h⟩
  obtain ⟨v, hv, hf⟩ := j0 (decide ((r.f9.length : Int) > 300))
  exact ⟨v, Ev.bind e1 (Ev.bind e2 (Ev.iteF c (Ev.iteF d hv))), fun _ => by omega⟩
theorem okkv {x : S79} (h : ok79 x) : OkKV x := ⟨⟨bytes_of_wf h.1.1, bytes_of_wf h.2.1.1⟩, wf_i64.1 h.2.2.1, wf_i64.1 h.2.2.2.1, wf_i64.1 h.2.2.2.2.1, wf_i64.1 h.2.2.2.2.2⟩
theorem okt {t : S27} (h : ok27 t) : OkT t := ⟨fun x hx => okkv (h.2.1.1.1 x hx), wf_i64.1 h.2.1.2.1, fun x hx => okkv (h.2.2.1.1 x hx), wf_i64.1 h.2.2.2⟩
theorem okr {r : S33} (h : ok33 r) : OkR r := by
  obtain ⟨_, _, h2, h3, _, h5, h6, h7, h8, h9, h10, h11, h12⟩ := h
  have := wf_u32.1 h11
  exact ⟨wf_i64.1 h2, okt h3, fun t ht => okt (h5.1 t ht), wf_i64.1 h6, wf_i64.1 h7, wf_i64.1 h8, fun n hn => wf_i64.1 (h9.1 n hn), fun k hk => bytes_of_wf (h10.1 k hk).1, ⟨this.1, by omega⟩, wf_i64.1 h12⟩
theorem oks_len {α : Type} {ok : α → Prop} {B : Nat} {l : List α} (h : Open.okSlice ok B l) (hB : 1 ≤ B) : l.length ≤ 140737488355328 := by
  have h1 := h.2.1
  have h2 : l.length * 1 ≤ l.length * B := Nat.mul_le_mul_left _ hB
  omega
theorem okr_len {r : S33} (h : ok33 r) : r.f5.length ≤ 140737488355328 ∧ r.f10.length ≤ 140737488355328 ∧ (∀ t ∈ r.f5, t.f1.f0.length ≤ 140737488355328 ∧ t.f2.length ≤ 140737488355328) ∧ r.f3.f1.f0.length ≤ 140737488355328 ∧ r.f3.f2.length ≤ 140737488355328 := by
  obtain ⟨_, _, h2, h3, _, h5, h6, h7, h8, h9, h10, h11, h12⟩ := h
  exact ⟨oks_len h5 (by omega), oks_len h10 (by omega), fun t ht => ⟨oks_len (h5.1 t ht).2.1.1 (by omega), oks_len (h5.1 t ht).2.2.1 (by omega)⟩, oks_len h3.2.1.1 (by omega), oks_len h3.2.2.1 (by omega)⟩
/-- A reply that can be coded: what its bytes, cut or with more behind them, are read as. -/
theorem cut_err {r : S33} (ok : OkR r) (al : aloneB r = true) (hg : (wReply r).2 = false) (h50 : r.f5.length ≤ 50) (c : Nat) (hc : c < (wReply r).1.length) : ∃ x, Ev (fun k => reply_Decode.f k ((wReply r).1.take c)) x ∧ er x = 4 := by
  have hb := reply_bytes ok
  have hat := reply_at ok al hg [] []
  have hlen := reply_len r h50
  simp only [List.nil_append, List.append_nil, List.length_nil] at hat
  rw [show ((0 : Nat) : Int) = 0 from rfl, Int.zero_add] at hat
  generalize hB : (wReply r).1 = b at *
  have hp := bytes_take hb c
  have hpl : (b.take c).length = c := by rw [List.length_take]; omega
  have hsp : b.take c ++ b.drop c = b := List.take_append_drop c b
  have inb := replyR_good.inb (b.take c) 0 0 hp (by omega) (by omega)
  have cle := (all_le (b.take c) hp 0 0).1
  have call := (all_le b hb 0 0).2 (by rw [hat])
  rw [hat] at call
  have h5 : (replyR (b.take c) 0 0).1.f5.length ≤ 50 := by
    by_cases z : (cntR (b.take c) 0 0).2.2 = 0
    · have m := cnt_good.mono (b.take c) (b.drop c) 0 (cntR (b.take c) 0 0).1 (cntR (b.take c) 0 0).2.1 hp (by omega) (by omega) (Prod.ext rfl (Prod.ext rfl z))
      rw [hsp] at m
      rw [m] at call
      dsimp only at call
      omega
    · rw [cnt_err _ _ _ z] at cle
      have z0 : (0 : Int).toNat = 0 := rfl
      omega
  refine (Decode_ev (b.take c) hp (by omega) h5).1 fun he => ?_
  obtain ⟨e0, ea⟩ := endE_got inb.2 he
  have m := replyR_good.mono (b.take c) (b.drop c) 0 (replyR (b.take c) 0 0).1 (replyR (b.take c) 0 0).2.1 hp (by omega) (by omega) (Prod.ext rfl (Prod.ext rfl e0))
  rw [hsp, hat] at m
  simp only [Prod.mk.injEq] at m
  omega
theorem more_ev {r : S33} (ok : OkR r) (al : aloneB r = true) (hg : (wReply r).2 = false) (h50 : r.f5.length ≤ 50) (l : List Int) (hl : Bytes l) (hn : l.length ≤ 1000) : ∃ x, Ev (fun k => reply_Decode.f k ((wReply r).1 ++ l)) x ∧ (((l.length : Int) == 0) == (er x == 0)) = true := by
  have hb := reply_bytes ok
  have hat := reply_at ok al hg [] l
  have hlen := reply_len r h50
  have henc : encE r = ((wReply r).1, 0) := by unfold encE; rw [hg, if_neg (by decide), if_pos al]
  simp only [List.nil_append, List.length_nil] at hat
  rw [show ((0 : Nat) : Int) = 0 from rfl, Int.zero_add] at hat
  have hB : Bytes ((wReply r).1 ++ l) := bytes_append.2 ⟨hb, hl⟩
  have hle : ((wReply r).1 ++ l).length = (wReply r).1.length + l.length := List.length_append
  have D := Decode_ev ((wReply r).1 ++ l) hB (by omega) (by rw [hat]; exact h50)
  rw [hat] at D
  dsimp only at D
  by_cases z : l = []
  · subst z
    simp only [List.append_nil] at D ⊢
    obtain ⟨x, hx, e⟩ := D.2 (endE_at rfl) henc
    exact ⟨x, hx, by rw [e]; rfl⟩
  · have zl : l.length ≠ 0 := fun h => z (List.eq_nil_of_length_eq_zero h)
    obtain ⟨x, hx, e⟩ := D.1 (by unfold endE; rw [if_pos rfl, if_pos (by omega)]; decide)
    refine ⟨x, hx, ?_⟩
    rw [e, beq_eq_false_iff_ne.2 (show (l.length : Int) ≠ 0 by omega)]
    rfl
theorem ReplyCuts : terrierlaw20_ReplyCuts.Pure := by
  intro a0 a1 a2 a3 l4 a5 a6 l7 a8 a9 l10 a11 a12 a13 l14 l15 a16 a17 cut l2 hok hcut hl2
  have ok := okr hok
  obtain ⟨n5, n10, na, n30, n32⟩ := okr_len hok
  generalize hr : (⟨a0, a1, a2, ⟨a3, ⟨l4, a5, a6⟩, l7, a8⟩, a9, l10, a11, a12, a13, l14, l15, a16, a17⟩ : S33) = r at ok n5 n10 na n30 n32
  obtain ⟨v, hv, hv50⟩ := few_ev r n5 n10 na n30 n32
  have hbl : Bytes l2 := bytes_of_wf hl2.1
  have ci := wf_i64.1 hcut
  have jt : Ev (fun k => terrierlaw20_ReplyCuts.j0 k cut l2 true r.f0 r.f1 r.f2 r.f3.f0 r.f3.f1.f0 r.f3.f1.f1 r.f3.f1.f2 r.f3.f2 r.f3.f3 r.f4 r.f5 r.f6 r.f7 r.f8 r.f9 r.f10 r.f11 r.f12) true := by
    refine Ev.step (fun k => by rw [terrierlaw20_ReplyCuts.j0]) ?_
    exact Ev.iteT rfl (Ev.bind lives_ev (Ev.now _))
  suffices h : Ev (fun k => terrierlaw20_ReplyCuts.f k r.f0 r.f1 r.f2 r.f3.f0 r.f3.f1.f0 r.f3.f1.f1 r.f3.f1.f2 r.f3.f2 r.f3.f3 r.f4 r.f5 r.f6 r.f7 r.f8 r.f9 r.f10 r.f11 r.f12 cut l2) true by
    subst hr
    exact h.rounds
  unfold terrierlaw20_ReplyCuts.f
  refine Ev.bind lives_ev (Ev.iteT rfl (Ev.bind hv ?_))
  by_cases c : v = true
  case neg => exact Ev.iteF c jt
  refine Ev.iteT c ?_
  have h50 := hv50 c
  by_cases d : (l2.length : Int) > 1000
  · rw [decide_eq_true d]; exact jt
  rw [decide_eq_false d]
  have hlen := reply_len r h50
  have hpos := reply_pos r
  refine Ev.step (fun k => by rw [terrierlaw20_ReplyCuts.j0]) ?_
  refine Ev.iteF (by decide) ?_
  have he := Encode_ev r ok.hash.1 ok.hash.2 (by omega) n30 n32 (by omega)
  refine Ev.bind he ?_
  by_cases hg : (wReply r).2 = true
  · have e : encE r = ([], 4) := by unfold encE; rw [if_pos hg]
    rw [e]
    exact Ev.iteF (by decide) (Ev.now _)
  by_cases al : aloneB r = true
  case neg =>
    have e : encE r = ([], 4) := by unfold encE; rw [if_neg hg, if_neg al]
    rw [e]
    exact Ev.iteF (by decide) (Ev.now _)
  have e : encE r = ((wReply r).1, 0) := by unfold encE; rw [if_neg hg, if_pos al]
  rw [e]
  have hg' : (wReply r).2 = false := by simpa using hg
  refine Ev.iteT rfl ?_
  dsimp only
  have w1 : IntKind.u64.wrap ((wReply r).1.length : Int) = ((wReply r).1.length : Int) := wrap_u64_id (by omega) (by omega)
  rw [w1]
  have u0 : 0 ≤ IntKind.u64.wrap cut := by rw [wrap_u64]; omega
  have m0 := Int.emod_nonneg (IntKind.u64.wrap cut) (show ((wReply r).1.length : Int) ≠ 0 by omega)
  have m1 := Int.emod_lt_of_pos (IntKind.u64.wrap cut) (show (0 : Int) < (wReply r).1.length by omega)
  rw [Int.tmod_eq_emod_of_nonneg u0]
  generalize IntKind.u64.wrap cut % ((wReply r).1.length : Int) = m at *
  rw [wrap64_id (n := m) (by omega) (by omega)]
  obtain ⟨x, hx, ex⟩ := cut_err ok al hg' h50 m.toNat (by omega)
  obtain ⟨y, hy, ey⟩ := more_ev ok al hg' h50 l2 hbl (by omega)
  refine Ev.iteF (by omega) (Ev.iteT m0 (Ev.iteT (by omega) (Ev.bind hx (Ev.bind0 (Twin_eq (by omega)) (Ev.iteT (by omega) (Ev.bind hy (Ev.iteT ex (Ev.eq (Ev.now _) ey))))))))
end Go.Proofs.Ytlhjdmpclfhoeaa.Pure
