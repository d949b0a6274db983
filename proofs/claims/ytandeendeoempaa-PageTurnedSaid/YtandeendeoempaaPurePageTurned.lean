/- A page's bytes of which bits are turned behind the checksum, within 32 in a row, are none: the plain statement that is left of the law PageTurned, for every page, place and turn. -/
import Derived.Test.YtandeendeoempaaPagFPageTurned
import Derived.Test.YtandeendeoempaaTrnPageTurned
import Derived.Test.YtandeendeoempaaPMx11
import Derived.Test.YtandeendeoempaaPMx14
import Derived.Test.YtandeendeoempaaPMx17
import Derived.Test.YtandeendeoempaaPMx18
import Derived.Test.YtandeendeoempaaPMx20
import Derived.Test.YtandeendeoempaaPMx8
import Derived.Test.YtandeendeoempaaPMx9
set_option linter.unusedSimpArgs false
namespace Go.Proofs.Ytandeendeoempaa.Pure
open Go.RowKit Go.Proofs.YtandeendeoempaaW.PrintWords Go.Proofs.YtandeendeoempaaW.PrintLast Go.Proofs.YtandeendeoempaaW.PrintMore Go.Proofs.Ytandeendeoempaa.PM Go.Proofs.Ytandeendeoempaa.Base Go.Proofs.Ytandeendeoempaa.Oct Go.Proofs.Ytandeendeoempaa.Crc Go.Proofs.Ytandeendeoempaa.Sum Go.Proofs.Ytandeendeoempaa.Trn Go.Proofs.Ytandeendeoempaa.Pag Go.Proofs.Ytandeendeoempaa.PagE Go.Proofs.Ytandeendeoempaa.PagF

theorem none_ev : Ev (fun k => ((terrierlaw04_Of.f k 0 0 0 ([] : List S44) ([] : List S60) ([] : List Int) ([] : List Int)).bind fun bt419 => ((terrierref04_Same.f k bt419.1 bt419.2.1 bt419.2.2.1 bt419.2.2.2.1 bt419.2.2.2.2.1 bt419.2.2.2.2.2.1 bt419.2.2.2.2.2.2 0 0 0 ([] : List S61) ([] : List S62) ([] : List Int) ([] : List Int)).bind fun t434 => (some t434)))) true := by
  have h1 : Ev (fun k => terrierlaw04_Of.f k 0 0 0 ([] : List S44) ([] : List S60) ([] : List Int) ([] : List Int)) (0, 0, 0, [], [], [], []) := by
    unfold terrierlaw04_Of.f
    refine Ev.step (fun k => by rw [terrierlaw04_Of.l0]) (Ev.iteF (by decide) ?_)
    exact Ev.step (fun k => by rw [terrierlaw04_Of.l1]) (Ev.iteF (by decide) (Ev.now _))
  have h2 : Ev (fun k => terrierref04_Same.f k 0 0 0 ([] : List S61) ([] : List S62) ([] : List Int) ([] : List Int) 0 0 0 ([] : List S61) ([] : List S62) ([] : List Int) ([] : List Int)) true := by
    unfold terrierref04_Same.f
    refine Ev.iteT rfl (Ev.iteT rfl (Ev.iteT rfl (Ev.iteT rfl (Ev.iteT rfl (Ev.iteT rfl (Ev.bind0 (Same_self []) ?_))))))
    refine Ev.step (fun k => by rw [terrierref04_Same.j0]) (Ev.iteF (by decide) ?_)
    refine Ev.step (fun k => by rw [terrierref04_Same.l0]) (Ev.iteF (by decide) ?_)
    refine Ev.step (fun k => by rw [terrierref04_Same.l1]) (Ev.iteF (by decide) ?_)
    exact Ev.step (fun k => by rw [terrierref04_Same.l2]) (Ev.iteF (by decide) (Ev.now _))
  exact Ev.bind h1 (Ev.bind h2 (Ev.now _))
theorem turn_end (l s : List Int) (hl : Bytes l) (hs : Bytes s) (hlen : s.length = l.length + 4) (hl2 : l.length = 252) (at_ B : Nat) (hB : B < 2 ^ 32) (h0 : B ≠ 0) (hn : num s = num (sealB l) ^^^ 2 ^ at_ * B)
    (hin : 32 ≤ at_ ∧ at_ ≤ 8 * s.length) : Ev (fun k => page_Decode.f k s) (0, 0, 0, [], [], [], [], 6) := by
  have ho := turned_open hl hs hlen at_ B hB hn (.inl hin)
  rw [if_neg h0] at ho
  unfold page_Decode.f
  refine Ev.iteT (by omega) (Ev.bind (Open_ev s hs (by omega)) ?_)
  rw [ho]
  exact Ev.iteF (show ¬ (6 : Int) = 0 by decide) (Ev.now _)
theorem turn_loop (l : List Int) (hl : Bytes l) (hl2 : l.length = 252) (t at_ : Nat) (ht : t < 2 ^ 32) (ht0 : t ≠ 0) (hat : 32 ≤ at_ ∧ at_ ≤ 2015) : ∀ (d i : Nat) (s : List Int), i + d = 32 →
    Bytes s → s.length = l.length + 4 → num s = num (sealB l) ^^^ 2 ^ at_ * (t % 2 ^ i) → Ev (fun k => terrierlaw04_PageTurned.l0 k (at_ : Int) (t : Int) s i) true
  | 0, i, s, hi, hs, hlen, hn => by
    have hB : t % 2 ^ i < 2 ^ 32 := Nat.lt_of_le_of_lt (Nat.mod_le _ _) ht
    obtain rfl : i = 32 := by omega
    rw [Nat.mod_eq_of_lt ht] at hn hB
    refine Ev.step (fun k => by rw [terrierlaw04_PageTurned.l0]) (Ev.iteF (by decide) ?_)
    refine Ev.bind (turn_end l s hl hs hlen hl2 at_ t hB ht0 hn ⟨hat.1, by omega⟩) ?_
    exact Ev.iteT rfl none_ev
  | d + 1, i, s, hi, hs, hlen, hn => by
    have hi32 : i < 32 := by omega
    refine Ev.step (fun k => by rw [terrierlaw04_PageTurned.l0]) (Ev.iteT (by clear hn; omega) (Ev.iteT (Int.natCast_nonneg _) ?_))
    have hd32 : t / 2 ^ i < 2 ^ 32 := Nat.lt_of_le_of_lt (Nat.div_le_self _ _) ht
    have ewi : wrap64 ((i : Int) + 1) = ((i + 1 : Nat) : Int) := wrapInc (by clear hn hd32; omega)
    rw [t_shr t i (by clear hn hd32; omega), and1 _ hd32, ewi]
    by_cases c : t / 2 ^ i % 2 = 1
    · have hq : (at_ + i) / 8 < s.length := by rw [hlen, hl2]; clear hn hd32 c; omega
      have hr : (at_ + i) % 8 < 8 := Nat.mod_lt _ (by decide)
      obtain ⟨e6, hy⟩ := t_xor hs (((at_ + i) / 8 : Nat) : Int) ((at_ + i) % 8) hr
      refine Ev.iteT (by rw [c]; rfl) ?_
      rw [t_sum at_ i (by clear hn hd32 e6 hy; omega), t_div, t_mod, t_wrap _ (by clear hn hd32 e6 hy; omega), t_shl _ hr, e6, Int.toNat_natCast]
      refine Ev.iteT (Int.natCast_nonneg _) (Ev.iteT (by exact_mod_cast hq) (Ev.iteT (Int.natCast_nonneg _) ?_))
      refine turn_loop l hl hl2 t at_ ht ht0 hat d (i + 1) _ (by omega) (set_bytes hs hy) (by rw [List.length_set, hlen]) ?_
      rw [num_set s _ _ hs hq hr, hn, low_xor t i c, pow_mul_xor, Nat.xor_assoc, ← Nat.pow_add, show 8 * ((at_ + i) / 8) + (at_ + i) % 8 = at_ + i by omega]
    · refine Ev.iteF (by clear hn hd32; omega) ?_
      refine turn_loop l hl hl2 t at_ ht ht0 hat d (i + 1) s (by omega) hs hlen ?_
      rw [low_same t i c]; exact hn
theorem okp_of {p : Pg} (h : ok28 ⟨p.k, p.t, p.n, p.items, p.kids, p.data, p.ids⟩) (hf : fewB p = true) : OkP p := by
  obtain ⟨_, h1, _, h3, h4, h5, _⟩ := h
  have u := wf_u64.1 h1
  refine ⟨⟨u.1, ?_⟩, fun x hx => ?_, fun x hx => ?_, bytes_of_wf h5.1, few_used hf⟩
  · have := u.2
    show p.t < _
    have e : (⟨p.k, p.t, p.n, p.items, p.kids, p.data, p.ids⟩ : S28).f1 = p.t := rfl
    rw [e] at this
    omega
  · have o := h3.1 x hx
    exact ⟨bytes_of_wf o.1.1, bytes_of_wf o.2.1.1⟩
  · exact bytes_of_wf (h4.1 x hx).1.1
theorem PageTurned : terrierlaw04_PageTurned.Pure := by
  intro a0 a1 a2 l3 l4 l5 l6 at_ turn hok hat hturn
  generalize hp : (⟨a0, a1, a2, l3, l4, l5, l6⟩ : Pg) = p
  have hok' : ok28 ⟨p.k, p.t, p.n, p.items, p.kids, p.data, p.ids⟩ := by subst hp; exact hok
  have ut := wf_u32.1 hturn
  have ia := wf_i64.1 hat
  suffices h : Ev (fun k => terrierlaw04_PageTurned.f k p.k p.t p.n p.items p.kids p.data p.ids at_ turn) true by
    subst hp
    exact h.rounds
  clear hok hp
  obtain ⟨t, hte⟩ : ∃ t : Nat, turn = (t : Int) := ⟨turn.toNat, by omega⟩
  subst hte
  have jt : Ev (fun k => terrierlaw04_PageTurned.j0 k at_ (t : Int) true p.k p.t p.n p.items p.kids p.data p.ids) true :=
    Ev.step (fun k => by rw [terrierlaw04_PageTurned.j0]) (Ev.iteT rfl (Ev.bind lives_ev (Ev.now _)))
  unfold terrierlaw04_PageTurned.f
  refine Ev.bind lives_ev (Ev.iteT rfl (Ev.bind (few_ev p) ?_))
  by_cases hf : fewB p = true
  case neg => exact Ev.iteF hf jt
  refine Ev.iteT hf ?_
  by_cases c0 : t = 0
  · rw [show ((t : Int) == 0) = true by simp [c0]]
    exact jt
  rw [show ((t : Int) == 0) = false by simp [c0]]
  have ok := okp_of hok' hf
  refine Ev.step (fun k => by rw [terrierlaw04_PageTurned.j0]) (Ev.iteF (by decide) (Ev.bind (Encode_ev p ok) ?_))
  by_cases hr : rightB p = true
  · rw [show encE p = (sealB (pad (bodyY p)), 0) from if_pos hr]
    refine Ev.iteT rfl ?_
    obtain ⟨u, hu⟩ : ∃ u : Nat, IntKind.u64.wrap at_ = (u : Int) := ⟨(IntKind.u64.wrap at_).toNat, by rw [wrap_u64]; omega⟩
    have e3 : Int.tmod (u : Int) 1984 = ((u % 1984 : Nat) : Int) := by rw [Int.tmod_eq_emod_of_nonneg (Int.natCast_nonneg _)]; exact (Int.natCast_emod _ _).symm
    have hm : u % 1984 < 1984 := Nat.mod_lt _ (by decide)
    generalize u % 1984 = r at e3 hm
    rw [hu, e3, t_wrap r (by omega), show (32 : Int) + (r : Int) = ((32 + r : Nat) : Int) by omega, t_wrap _ (by omega)]
    have hb := pad_bytes (body_bytes ok)
    exact turn_loop (pad (bodyY p)) hb (pad_len _) t (32 + r) (by omega) c0 ⟨by omega, by omega⟩ 32 0 _ rfl (seal_bytes hb) (seal_length _) (by rw [Nat.pow_zero, Nat.mod_one, Nat.mul_zero, Nat.xor_zero])
  · rw [show encE p = ([], 4) from if_neg hr]
    exact Ev.iteF (by decide) (Ev.eq (Ev.now _) (by simp))
end Go.Proofs.Ytandeendeoempaa.Pure
