/- A part of the proof of the seat's rows, said of the kit's own model: the reference's pieces: numbers, texts, joins. Conditions: as each theorem says. -/
import Derived.Test.YthhhklmdceieaaaCd6
namespace Go.Ab
open Go Go.Proofs
set_option linter.unusedVariables false
set_option linter.unusedSimpArgs false
set_option maxRecDepth 100000

theorem e98 : elemT Try.prog 98 = some 22 := by kernel_rfl
theorem s22 : sizeT Try.prog 22 = some 1 := by kernel_rfl
theorem rput_spec (σ : Sg) (n : Int) (k : Nat) (h0 : 0 ≤ n) (h1 : n < 18446744073709551616) (hk : k ≤ 8) : ACalls Try.prog 52 [.v (.int .u64 n), pi k] σ (fun r σ' => r = .row 1 (byts (be n k)) ∧ σ' = σ) := by
  refine q_body Try.func52 rfl (by kernel_rfl) Try.ntmps52 (Nat.le_of_ble_eq_true rfl) ?_
  repeat (first | (refine q_tn ?_) | (refine q_nil ?_) | (refine q_seq ?_) | (refine q_reg [7, 16] ?_) | (refine q_load (by rfl) (by rfl) (by rfl) (by rfl) (upd_same _ _ _) (by rfl) ?_) | (refine q_val (by rfl) (by rfl) (by rfl) (by rfl) ?_) | (refine q_blk ?_) | (refine q_skip ?_) | (refine q_ct (by rfl) ?_) | (refine q_cf (by rfl) ?_) | (refine q_not (by rfl) (by rfl) ?_) | (refine q_bn ?_) | (refine q_be ?_) | (refine q_exit ?_) | (refine q_te ?_) | (refine q_ret ?_) | (refine q_tr ?_) | (refine q_br ?_))
  refine q_w (by rfl) (by rfl) (by rfl) (by rfl) ?_
  refine AO.bslice rfl e22 s5 h5 rfl rfl ?_
  intro h hs hF
  repeat (first | (refine q_tn ?_) | (refine q_nil ?_) | (refine q_seq ?_) | (refine q_reg [7, 16] ?_) | (refine q_load (by rfl) (by rfl) (by rfl) (by rfl) (upd_same _ _ _) (by rfl) ?_) | (refine q_val (by rfl) (by rfl) (by rfl) (by rfl) ?_) | (refine q_blk ?_) | (refine q_skip ?_) | (refine q_ct (by rfl) ?_) | (refine q_cf (by rfl) ?_) | (refine q_not (by rfl) (by rfl) ?_) | (refine q_bn ?_) | (refine q_be ?_) | (refine q_exit ?_) | (refine q_te ?_) | (refine q_ret ?_) | (refine q_tr ?_) | (refine q_br ?_))
  refine q_loop (fun j s => ∃ (i : Nat) (h : Hdr), i + j = k ∧ Free σ.tips h ∧ h.sz = 1 ∧ s = ⟨22, frL [(0, .v (.int .u64 (n / 256 ^ i))), (1, pi k), (5, .own h (byts (be n i))), (6, pi i)], ⟨σ.vars, tipSet σ.tips h i⟩⟩) (n := k)
    (s0 := ⟨22, frL [(0, .v (.int .u64 (n / 256 ^ 0))), (1, pi k), (5, .own h (byts (be n 0))), (6, pi (0 : Nat))], ⟨σ.vars, tipSet σ.tips h 0⟩⟩)
    (Sub.mk' rfl ⟨⟨_, rfl, AV.le_of_eq (by simp)⟩, ⟨_, rfl, AV.le_refl _⟩, ⟨_, rfl, AV.le_refl _⟩, ⟨_, rfl, AV.le_refl _⟩, trivial⟩ (SgLe.refl _)) ⟨0, h, by omega, hF, hs, rfl⟩ ?_
  rintro j s ⟨i, h, hij, hF, hs, rfl⟩
  repeat (first | (refine q_tn ?_) | (refine q_nil ?_) | (refine q_seq ?_) | (refine q_reg [7, 16] ?_) | (refine q_load (by rfl) (by rfl) (by rfl) (by rfl) (upd_same _ _ _) (by rfl) ?_) | (refine q_val (by rfl) (by rfl) (by rfl) (by rfl) ?_) | (refine q_blk ?_) | (refine q_skip ?_) | (refine q_ct (by rfl) ?_) | (refine q_cf (by rfl) ?_) | (refine q_not (by rfl) (by rfl) ?_) | (refine q_bn ?_) | (refine q_be ?_) | (refine q_exit ?_) | (refine q_te ?_) | (refine q_ret ?_) | (refine q_tr ?_) | (refine q_br ?_))
  refine q_if rfl ?_ ?_
  · intro hlt
    have hlt : (i : Int) < k := of_decide_eq_true hlt
    have p0 : 0 ≤ n / 256 ^ i := Int.ediv_nonneg h0 (Int.pow_nonneg (by omega))
    have p1 : n / 256 ^ i ≤ n := Int.ediv_le_self _ h0
    repeat (first | (refine q_tn ?_) | (refine q_nil ?_) | (refine q_seq ?_) | (refine q_reg [7, 16] ?_) | (refine q_load (by rfl) (by rfl) (by rfl) (by rfl) (upd_same _ _ _) (by rfl) ?_) | (refine q_val (by rfl) (by rfl) (by rfl) (by rfl) ?_) | (refine q_blk ?_) | (refine q_skip ?_) | (refine q_ct (by rfl) ?_) | (refine q_cf (by rfl) ?_) | (refine q_not (by rfl) (by rfl) ?_) | (refine q_bn ?_) | (refine q_be ?_) | (refine q_exit ?_) | (refine q_te ?_) | (refine q_ret ?_) | (refine q_tr ?_) | (refine q_br ?_))
    refine q_w (by rfl) (by rfl) (by rfl) (by rfl) ?_
    refine AO.bslice rfl e22 s5 h5 rfl rfl ?_
    intro h2 hs2 hF2
    repeat (first | (refine q_tn ?_) | (refine q_nil ?_) | (refine q_seq ?_) | (refine q_reg [7, 16] ?_) | (refine q_load (by rfl) (by rfl) (by rfl) (by rfl) (upd_same _ _ _) (by rfl) ?_) | (refine q_val (by rfl) (by rfl) (by rfl) (by rfl) ?_) | (refine q_blk ?_) | (refine q_skip ?_) | (refine q_ct (by rfl) ?_) | (refine q_cf (by rfl) ?_) | (refine q_not (by rfl) (by rfl) ?_) | (refine q_bn ?_) | (refine q_be ?_) | (refine q_exit ?_) | (refine q_te ?_) | (refine q_ret ?_) | (refine q_tr ?_) | (refine q_br ?_))
    refine q_w (by rfl) (by rfl) (by rfl) (by rfl) ?_
    refine AO.append (T := tipSet σ.tips h i) (h := h2) (es := [[.v (.int .u8 (IntKind.u8.wrap ((n / 256 ^ i).tmod 256)))]]) (ys := byts (be n i)) rfl e22 ni22 s5 y5 z5 rfl (by simp [AV.base?, hs2]) (by simp [AV.rows?, hs]) (by simp [be_len]; omega) (by simp [be_len]; omega) rfl hF2 ?_
    intro h3 hs3 hF3
    repeat (first | (refine q_tn ?_) | (refine q_nil ?_) | (refine q_seq ?_) | (refine q_reg [7, 16] ?_) | (refine q_load (by rfl) (by rfl) (by rfl) (by rfl) (upd_same _ _ _) (by rfl) ?_) | (refine q_val (by rfl) (by rfl) (by rfl) (by rfl) ?_) | (refine q_blk ?_) | (refine q_skip ?_) | (refine q_ct (by rfl) ?_) | (refine q_cf (by rfl) ?_) | (refine q_not (by rfl) (by rfl) ?_) | (refine q_bn ?_) | (refine q_be ?_) | (refine q_exit ?_) | (refine q_te ?_) | (refine q_ret ?_) | (refine q_tr ?_) | (refine q_br ?_))
    refine ⟨j - 1, ⟨22, frL [(0, .v (.int .u64 (n / 256 ^ (i + 1)))), (1, pi k), (5, .own h3 (byts (be n (i + 1)))), (6, pi (i + 1 : Nat))], ⟨σ.vars, tipSet σ.tips h3 (i + 1)⟩⟩, by omega, ?_, i + 1, h3, by omega, hF3.of, hs3, rfl⟩
    refine Sub.mk' rfl ⟨⟨_, rfl, AV.le_of_eq ?_⟩, ⟨_, rfl, AV.le_refl _⟩, ⟨_, rfl, AV.le_of_eq ?_⟩, ⟨_, rfl, AV.le_of_eq ?_⟩, trivial⟩ ?_
    · rw [Int.tdiv_eq_ediv_of_nonneg p0, wrap_u64 _ (by omega) (by omega), Int.ediv_ediv_of_nonneg (Int.pow_nonneg (by omega)), Int.pow_succ]
    · rw [Int.tmod_eq_emod_of_nonneg p0, wrap8, Int.emod_emod]; rfl
    · rw [wrap_i64 _ (by omega) (by omega)]; rfl
    · simp only [byts_len, be_len]
      rw [show [[AV.v (Value.int IntKind.u8 (IntKind.u8.wrap ((n / 256 ^ i).tmod 256)))]].length + i = i + 1 by simp; omega]
      exact SgLe.tip2 hF
  · intro hge
    have hge : ¬ ((i : Int) < k) := of_decide_eq_false hge
    have hF' := hF
    have hs' := hs
    clear hF hs
    obtain rfl : i = k := by omega
    repeat (first | (refine q_tn ?_) | (refine q_nil ?_) | (refine q_seq ?_) | (refine q_reg [] ?_) | (refine q_load (by rfl) (by rfl) (by rfl) (by rfl) (upd_same _ _ _) (by rfl) ?_) | (refine q_val (by rfl) (by rfl) (by rfl) (by rfl) ?_) | (refine q_blk ?_) | (refine q_skip ?_) | (refine q_ct (by rfl) ?_) | (refine q_cf (by rfl) ?_) | (refine q_not (by rfl) (by rfl) ?_) | (refine q_bn ?_) | (refine q_be ?_) | (refine q_exit ?_) | (refine q_te ?_) | (refine q_ret ?_) | (refine q_tr ?_) | (refine q_br ?_))
    exact q_er rfl (own_le' hs') (SgLe.tip hF') ⟨rfl, rfl⟩
theorem rnum_spec (σ : Sg) (n : Int) : ACalls Try.prog 24 [pi n] σ (fun r σ' => r = .row 1 (byts (n8 n)) ∧ σ' = σ) := by
  refine q_body Try.func24 rfl (by kernel_rfl) Try.ntmps24 (Nat.le_of_ble_eq_true rfl) ?_
  repeat (first | (refine q_tn ?_) | (refine q_nil ?_) | (refine q_seq ?_) | (refine q_reg [] ?_) | (refine q_load (by rfl) (by rfl) (by rfl) (by rfl) (upd_same _ _ _) (by rfl) ?_) | (refine q_val (by rfl) (by rfl) (by rfl) (by rfl) ?_) | (refine q_blk ?_) | (refine q_skip ?_) | (refine q_ct (by rfl) ?_) | (refine q_cf (by rfl) ?_) | (refine q_not (by rfl) (by rfl) ?_) | (refine q_bn ?_) | (refine q_be ?_) | (refine q_exit ?_) | (refine q_te ?_) | (refine q_ret ?_) | (refine q_tr ?_) | (refine q_br ?_))
  refine q_call (f := 52) (by rfl) (by rfl) (by rfl) (by rfl) ((rput_spec _ (u64 n) 8 (u64_range n).1 (u64_range n).2 (by omega)).mono ?_); rintro _ _ ⟨rfl, rfl⟩
  repeat (first | (refine q_tn ?_) | (refine q_nil ?_) | (refine q_seq ?_) | (refine q_reg [] ?_) | (refine q_load (by rfl) (by rfl) (by rfl) (by rfl) (upd_same _ _ _) (by rfl) ?_) | (refine q_val (by rfl) (by rfl) (by rfl) (by rfl) ?_) | (refine q_blk ?_) | (refine q_skip ?_) | (refine q_ct (by rfl) ?_) | (refine q_cf (by rfl) ?_) | (refine q_not (by rfl) (by rfl) ?_) | (refine q_bn ?_) | (refine q_be ?_) | (refine q_exit ?_) | (refine q_te ?_) | (refine q_ret ?_) | (refine q_tr ?_) | (refine q_br ?_))
  exact q_er rfl (AV.le_refl _) (SgLe.refl _) ⟨rfl, rfl⟩
theorem rflag_spec (σ : Sg) (f : Bool) : ACalls Try.prog 27 [pb f] σ (fun r σ' => r = .row 1 (byts (fl f)) ∧ σ' = σ) := by
  refine q_body Try.func27 rfl (by kernel_rfl) Try.ntmps27 (Nat.le_of_ble_eq_true rfl) ?_
  cases f
  all_goals
    repeat (first | (refine q_tn ?_) | (refine q_nil ?_) | (refine q_seq ?_) | (refine q_reg [] ?_) | (refine q_load (by rfl) (by rfl) (by rfl) (by rfl) (upd_same _ _ _) (by rfl) ?_) | (refine q_val (by rfl) (by rfl) (by rfl) (by rfl) ?_) | (refine q_blk ?_) | (refine q_skip ?_) | (refine q_ct (by rfl) ?_) | (refine q_cf (by rfl) ?_) | (refine q_not (by rfl) (by rfl) ?_) | (refine q_bn ?_) | (refine q_be ?_) | (refine q_exit ?_) | (refine q_te ?_) | (refine q_ret ?_) | (refine q_tr ?_) | (refine q_br ?_))
    exact q_er rfl (AV.le_refl _) (SgLe.refl _) ⟨rfl, rfl⟩
theorem rsmall_spec (σ : Sg) (n : Int) : ACalls Try.prog 50 [pi n] σ (fun r σ' => r = pb (!byteN n) ∧ σ' = σ) := by
  refine q_body Try.func50 rfl (by kernel_rfl) Try.ntmps50 (Nat.le_of_ble_eq_true rfl) ?_
  repeat (first | (refine q_tn ?_) | (refine q_nil ?_) | (refine q_seq ?_) | (refine q_reg [] ?_) | (refine q_load (by rfl) (by rfl) (by rfl) (by rfl) (upd_same _ _ _) (by rfl) ?_) | (refine q_val (by rfl) (by rfl) (by rfl) (by rfl) ?_) | (refine q_blk ?_) | (refine q_skip ?_) | (refine q_ct (by rfl) ?_) | (refine q_cf (by rfl) ?_) | (refine q_not (by rfl) (by rfl) ?_) | (refine q_bn ?_) | (refine q_be ?_) | (refine q_exit ?_) | (refine q_te ?_) | (refine q_ret ?_) | (refine q_tr ?_) | (refine q_br ?_))
  cases e : decide (n ≥ 0)
  all_goals
    repeat (first | (refine q_tn ?_) | (refine q_nil ?_) | (refine q_seq ?_) | (refine q_reg [] ?_) | (refine q_load (by rfl) (by rfl) (by rfl) (by rfl) (upd_same _ _ _) (by rfl) ?_) | (refine q_val (by rfl) (by rfl) (by rfl) (by rfl) ?_) | (refine q_blk ?_) | (refine q_skip ?_) | (refine q_ct (by rfl) ?_) | (refine q_cf (by rfl) ?_) | (refine q_not (by rfl) (by rfl) ?_) | (refine q_bn ?_) | (refine q_be ?_) | (refine q_exit ?_) | (refine q_te ?_) | (refine q_ret ?_) | (refine q_tr ?_) | (refine q_br ?_))
    exact q_er rfl (AV.le_of_eq (congrArg (fun b => pb b) (by simp at e; rw [Bool.eq_iff_iff]; simp [byteN]; omega))) (SgLe.refl _) ⟨rfl, rfl⟩
def rowsOf (ls : List (List Int)) : List (List AV) := ls.map fun l => [.row 1 (byts l)]
theorem rjoin_spec (σ : Sg) (ls : List (List Int)) (hl : ls.flatten.length ≤ 1000000000) (hn : ls.length ≤ 1000000000) : ACalls Try.prog 25 [.row 1 (rowsOf ls)] σ (fun r σ' => r = .row 1 (byts ls.flatten) ∧ σ' = σ) := by
  refine q_body Try.func25 rfl (by kernel_rfl) Try.ntmps25 (Nat.le_of_ble_eq_true rfl) ?_
  repeat (first | (refine q_tn ?_) | (refine q_nil ?_) | (refine q_seq ?_) | (refine q_reg [6] ?_) | (refine q_load (by rfl) (by rfl) (by rfl) (by rfl) (upd_same _ _ _) (by rfl) ?_) | (refine q_val (by rfl) (by rfl) (by rfl) (by rfl) ?_) | (refine q_blk ?_) | (refine q_skip ?_) | (refine q_ct (by rfl) ?_) | (refine q_cf (by rfl) ?_) | (refine q_not (by rfl) (by rfl) ?_) | (refine q_bn ?_) | (refine q_be ?_) | (refine q_exit ?_) | (refine q_te ?_) | (refine q_ret ?_) | (refine q_tr ?_) | (refine q_br ?_))
  refine q_w (by rfl) (by rfl) (by rfl) (by rfl) ?_
  refine AO.bslice rfl e22 s5 h5 rfl rfl ?_
  intro h hs hF
  repeat (first | (refine q_tn ?_) | (refine q_nil ?_) | (refine q_seq ?_) | (refine q_reg [] ?_) | (refine q_load (by rfl) (by rfl) (by rfl) (by rfl) (upd_same _ _ _) (by rfl) ?_) | (refine q_val (by rfl) (by rfl) (by rfl) (by rfl) ?_) | (refine q_blk ?_) | (refine q_skip ?_) | (refine q_ct (by rfl) ?_) | (refine q_cf (by rfl) ?_) | (refine q_not (by rfl) (by rfl) ?_) | (refine q_bn ?_) | (refine q_be ?_) | (refine q_exit ?_) | (refine q_te ?_) | (refine q_ret ?_) | (refine q_tr ?_) | (refine q_br ?_))
  refine q_loop (fun j s => ∃ (i : Nat) (h : Hdr), i + j = ls.length ∧ Free σ.tips h ∧ h.sz = 1 ∧ s = ⟨18, frL [(3, .own h (byts (ls.take i).flatten)), (7, .row 1 (rowsOf ls)), (8, pi ls.length), (9, pi i)], ⟨σ.vars, tipSet σ.tips h (ls.take i).flatten.length⟩⟩) (n := ls.length)
    (s0 := ⟨18, frL [(3, .own h (byts (ls.take 0).flatten)), (7, .row 1 (rowsOf ls)), (8, pi ls.length), (9, pi (0 : Nat))], ⟨σ.vars, tipSet σ.tips h (ls.take 0).flatten.length⟩⟩)
    (Sub.mk' rfl ⟨⟨_, rfl, AV.le_of_eq (by simp [byts])⟩, ⟨_, rfl, AV.le_refl _⟩, ⟨_, rfl, AV.le_of_eq (by simp [rowsOf])⟩, ⟨_, rfl, AV.le_refl _⟩, trivial⟩ (SgLe.of_eq (by simp; rfl))) ⟨0, h, by omega, hF, hs, rfl⟩ ?_
  rintro j s ⟨i, h, hij, hF, hs, rfl⟩
  repeat (first | (refine q_tn ?_) | (refine q_nil ?_) | (refine q_seq ?_) | (refine q_reg [] ?_) | (refine q_load (by rfl) (by rfl) (by rfl) (by rfl) (upd_same _ _ _) (by rfl) ?_) | (refine q_val (by rfl) (by rfl) (by rfl) (by rfl) ?_) | (refine q_blk ?_) | (refine q_skip ?_) | (refine q_ct (by rfl) ?_) | (refine q_cf (by rfl) ?_) | (refine q_not (by rfl) (by rfl) ?_) | (refine q_bn ?_) | (refine q_be ?_) | (refine q_exit ?_) | (refine q_te ?_) | (refine q_ret ?_) | (refine q_tr ?_) | (refine q_br ?_))
  refine q_if rfl ?_ ?_
  · intro hlt
    have hlt : (i : Int) < ls.length := of_decide_eq_true hlt
    have hi : i < ls.length := by omega
    have hget : (rowsOf ls)[i]? = some [.row 1 (byts ls[i])] := by simp [rowsOf, hi]
    have htk : ls.take (i + 1) = ls.take i ++ [ls[i]] := by rw [List.take_succ_eq_append_getElem hi]
    have hlen : (ls.take (i + 1)).flatten.length ≤ ls.flatten.length := by
      have e := congrArg (fun l => (List.flatten l).length) (List.take_append_drop (i + 1) ls)
      simp only [List.flatten_append, List.length_append] at e
      omega
    generalize ls[i] = x at hget htk
    rw [htk] at hlen
    simp at hlen hl
    repeat (first | (refine q_tn ?_) | (refine q_nil ?_) | (refine q_seq ?_) | (refine q_reg [] ?_) | (refine q_load (by rfl) (by rfl) (by rfl) (by rfl) (upd_same _ _ _) (by rfl) ?_) | (refine q_val (by rfl) (by rfl) (by rfl) (by rfl) ?_) | (refine q_blk ?_) | (refine q_skip ?_) | (refine q_ct (by rfl) ?_) | (refine q_cf (by rfl) ?_) | (refine q_not (by rfl) (by rfl) ?_) | (refine q_bn ?_) | (refine q_be ?_) | (refine q_exit ?_) | (refine q_te ?_) | (refine q_ret ?_) | (refine q_tr ?_) | (refine q_br ?_))
    refine q_idx2 (by rfl) (by rfl) (by rfl) e98 s22 (by rfl) (by rfl) (by rfl) (by rfl) hget ?_
    repeat (first | (refine q_tn ?_) | (refine q_nil ?_) | (refine q_seq ?_) | (refine q_reg [] ?_) | (refine q_load (by rfl) (by rfl) (by rfl) (by rfl) (upd_same _ _ _) (by rfl) ?_) | (refine q_val (by rfl) (by rfl) (by rfl) (by rfl) ?_) | (refine q_blk ?_) | (refine q_skip ?_) | (refine q_ct (by rfl) ?_) | (refine q_cf (by rfl) ?_) | (refine q_not (by rfl) (by rfl) ?_) | (refine q_bn ?_) | (refine q_be ?_) | (refine q_exit ?_) | (refine q_te ?_) | (refine q_ret ?_) | (refine q_tr ?_) | (refine q_br ?_))
    refine q_w (by rfl) (by rfl) (by rfl) (by rfl) ?_
    refine AO.append (T := σ.tips) (h := h) (es := byts (ls.take i).flatten) (ys := byts x) rfl e22 ni22 s5 y5 z5 rfl (by simp [AV.base?, hs]) rfl (by simp; omega) (by simp; omega) (congrArg (tipSet σ.tips h) (by simp)) hF ?_
    intro h3 hs3 hF3
    repeat (first | (refine q_tn ?_) | (refine q_nil ?_) | (refine q_seq ?_) | (refine q_reg [] ?_) | (refine q_load (by rfl) (by rfl) (by rfl) (by rfl) (upd_same _ _ _) (by rfl) ?_) | (refine q_val (by rfl) (by rfl) (by rfl) (by rfl) ?_) | (refine q_blk ?_) | (refine q_skip ?_) | (refine q_ct (by rfl) ?_) | (refine q_cf (by rfl) ?_) | (refine q_not (by rfl) (by rfl) ?_) | (refine q_bn ?_) | (refine q_be ?_) | (refine q_exit ?_) | (refine q_te ?_) | (refine q_ret ?_) | (refine q_tr ?_) | (refine q_br ?_))
    exact ⟨j - 1, ⟨18, frL [(3, .own h3 (byts (ls.take (i + 1)).flatten)), (7, .row 1 (rowsOf ls)), (8, pi ls.length), (9, pi (i + 1 : Nat))], ⟨σ.vars, tipSet σ.tips h3 (ls.take (i + 1)).flatten.length⟩⟩, by omega,
      Sub.mk' rfl ⟨⟨_, rfl, AV.le_of_eq (by rw [htk]; simp [byts_append])⟩, ⟨_, rfl, AV.le_refl _⟩, ⟨_, rfl, AV.le_refl _⟩, ⟨_, rfl, AV.le_of_eq (by rw [wrap_i64 _ (by omega) (by omega)]; rfl)⟩, trivial⟩ (SgLe.of_eq (by rw [htk]; simp; rfl)), i + 1, h3, by omega, hF3, hs3, rfl⟩
  · intro hge
    have hge : ¬ ((i : Int) < ls.length) := of_decide_eq_false hge
    obtain rfl : i = ls.length := by omega
    repeat (first | (refine q_tn ?_) | (refine q_nil ?_) | (refine q_seq ?_) | (refine q_reg [] ?_) | (refine q_load (by rfl) (by rfl) (by rfl) (by rfl) (upd_same _ _ _) (by rfl) ?_) | (refine q_val (by rfl) (by rfl) (by rfl) (by rfl) ?_) | (refine q_blk ?_) | (refine q_skip ?_) | (refine q_ct (by rfl) ?_) | (refine q_cf (by rfl) ?_) | (refine q_not (by rfl) (by rfl) ?_) | (refine q_bn ?_) | (refine q_be ?_) | (refine q_exit ?_) | (refine q_te ?_) | (refine q_ret ?_) | (refine q_tr ?_) | (refine q_br ?_))
    exact q_er rfl (own_le' hs) (SgLe.tip hF) ⟨by simp, rfl⟩
def rtx (t : List Int) : List Int := be t.length 2 ++ t
theorem rText_spec (σ : Sg) (t : List Int) (ht : t.length ≤ 100000) : ACalls Try.prog 26 [.row 1 (byts t)] σ (fun r σ' => r = .row 1 (byts (rtx t)) ∧ σ' = σ) := by
  refine q_body Try.func26 rfl (by kernel_rfl) Try.ntmps26 (Nat.le_of_ble_eq_true rfl) ?_
  repeat (first | (refine q_tn ?_) | (refine q_nil ?_) | (refine q_seq ?_) | (refine q_reg [] ?_) | (refine q_load (by rfl) (by rfl) (by rfl) (by rfl) (upd_same _ _ _) (by rfl) ?_) | (refine q_val (by rfl) (by rfl) (by rfl) (by rfl) ?_) | (refine q_blk ?_) | (refine q_skip ?_) | (refine q_ct (by rfl) ?_) | (refine q_cf (by rfl) ?_) | (refine q_not (by rfl) (by rfl) ?_) | (refine q_bn ?_) | (refine q_be ?_) | (refine q_exit ?_) | (refine q_te ?_) | (refine q_ret ?_) | (refine q_tr ?_) | (refine q_br ?_))
  refine q_call (f := 52) (by rfl) (by rfl) (by rfl) (by rfl) ((rput_spec _ (IntKind.u64.wrap ((byts t).length : Int)) 2 (u64_range _).1 (u64_range _).2 (by omega)).mono ?_); rintro _ _ ⟨rfl, rfl⟩
  repeat (first | (refine q_tn ?_) | (refine q_nil ?_) | (refine q_seq ?_) | (refine q_reg [] ?_) | (refine q_load (by rfl) (by rfl) (by rfl) (by rfl) (upd_same _ _ _) (by rfl) ?_) | (refine q_val (by rfl) (by rfl) (by rfl) (by rfl) ?_) | (refine q_blk ?_) | (refine q_skip ?_) | (refine q_ct (by rfl) ?_) | (refine q_cf (by rfl) ?_) | (refine q_not (by rfl) (by rfl) ?_) | (refine q_bn ?_) | (refine q_be ?_) | (refine q_exit ?_) | (refine q_te ?_) | (refine q_ret ?_) | (refine q_tr ?_) | (refine q_br ?_))
  refine q_call (f := 25) (by rfl) (by rfl) (by rfl) (by rfl) ((rjoin_spec _ [be (IntKind.u64.wrap ((byts t).length : Int)) 2, t] (by simp [be_len]; omega) (by simp)).mono ?_); rintro _ _ ⟨rfl, rfl⟩
  repeat (first | (refine q_tn ?_) | (refine q_nil ?_) | (refine q_seq ?_) | (refine q_reg [] ?_) | (refine q_load (by rfl) (by rfl) (by rfl) (by rfl) (upd_same _ _ _) (by rfl) ?_) | (refine q_val (by rfl) (by rfl) (by rfl) (by rfl) ?_) | (refine q_blk ?_) | (refine q_skip ?_) | (refine q_ct (by rfl) ?_) | (refine q_cf (by rfl) ?_) | (refine q_not (by rfl) (by rfl) ?_) | (refine q_bn ?_) | (refine q_be ?_) | (refine q_exit ?_) | (refine q_te ?_) | (refine q_ret ?_) | (refine q_tr ?_) | (refine q_br ?_))
  exact q_er rfl (AV.le_refl _) (SgLe.refl _) ⟨by rw [byts_len, wrap_u64 _ (by omega) (by omega)]; simp [rtx, resV], rfl⟩
theorem rlong_spec (σ : Sg) (ls : List (List Int)) (hn : ls.length ≤ 1000000000) : ACalls Try.prog 21 [.row 1 (rowsOf ls)] σ (fun r σ' => r = pb (ls.any long) ∧ σ' = σ) := by
  refine q_body Try.func21 rfl (by kernel_rfl) Try.ntmps21 (Nat.le_of_ble_eq_true rfl) ?_
  repeat (first | (refine q_tn ?_) | (refine q_nil ?_) | (refine q_seq ?_) | (refine q_reg [] ?_) | (refine q_load (by rfl) (by rfl) (by rfl) (by rfl) (upd_same _ _ _) (by rfl) ?_) | (refine q_val (by rfl) (by rfl) (by rfl) (by rfl) ?_) | (refine q_blk ?_) | (refine q_skip ?_) | (refine q_ct (by rfl) ?_) | (refine q_cf (by rfl) ?_) | (refine q_not (by rfl) (by rfl) ?_) | (refine q_bn ?_) | (refine q_be ?_) | (refine q_exit ?_) | (refine q_te ?_) | (refine q_ret ?_) | (refine q_tr ?_) | (refine q_br ?_))
  refine q_loop (fun j s => ∃ (i : Nat), i + j = ls.length ∧ (ls.take i).any long = false ∧ s = ⟨15, frL [(5, .row 1 (rowsOf ls)), (6, pi ls.length), (7, pi i)], σ⟩) (n := ls.length)
    (s0 := ⟨15, frL [(5, .row 1 (rowsOf ls)), (6, pi ls.length), (7, pi (0 : Nat))], σ⟩)
    (Sub.mk' rfl ⟨⟨_, rfl, AV.le_refl _⟩, ⟨_, rfl, AV.le_of_eq (by simp [rowsOf])⟩, ⟨_, rfl, AV.le_refl _⟩, trivial⟩ (SgLe.refl _)) ⟨0, by omega, by simp, rfl⟩ ?_
  rintro j s ⟨i, hij, hall, rfl⟩
  repeat (first | (refine q_tn ?_) | (refine q_nil ?_) | (refine q_seq ?_) | (refine q_reg [] ?_) | (refine q_load (by rfl) (by rfl) (by rfl) (by rfl) (upd_same _ _ _) (by rfl) ?_) | (refine q_val (by rfl) (by rfl) (by rfl) (by rfl) ?_) | (refine q_blk ?_) | (refine q_skip ?_) | (refine q_ct (by rfl) ?_) | (refine q_cf (by rfl) ?_) | (refine q_not (by rfl) (by rfl) ?_) | (refine q_bn ?_) | (refine q_be ?_) | (refine q_exit ?_) | (refine q_te ?_) | (refine q_ret ?_) | (refine q_tr ?_) | (refine q_br ?_))
  refine q_if rfl ?_ ?_
  · intro hlt
    have hlt : (i : Int) < ls.length := of_decide_eq_true hlt
    have hi : i < ls.length := by omega
    have hget : (rowsOf ls)[i]? = some [.row 1 (byts ls[i])] := by simp [rowsOf, hi]
    have htk : ls.take (i + 1) = ls.take i ++ [ls[i]] := by rw [List.take_succ_eq_append_getElem hi]
    have hmem : ls[i] ∈ ls := List.getElem_mem hi
    generalize ls[i] = x at hget htk hmem
    repeat (first | (refine q_tn ?_) | (refine q_nil ?_) | (refine q_seq ?_) | (refine q_reg [] ?_) | (refine q_load (by rfl) (by rfl) (by rfl) (by rfl) (upd_same _ _ _) (by rfl) ?_) | (refine q_val (by rfl) (by rfl) (by rfl) (by rfl) ?_) | (refine q_blk ?_) | (refine q_skip ?_) | (refine q_ct (by rfl) ?_) | (refine q_cf (by rfl) ?_) | (refine q_not (by rfl) (by rfl) ?_) | (refine q_bn ?_) | (refine q_be ?_) | (refine q_exit ?_) | (refine q_te ?_) | (refine q_ret ?_) | (refine q_tr ?_) | (refine q_br ?_))
    refine q_idx2 (by rfl) (by rfl) (by rfl) e98 s22 (by rfl) (by rfl) (by rfl) (by rfl) hget ?_
    repeat (first | (refine q_tn ?_) | (refine q_nil ?_) | (refine q_seq ?_) | (refine q_reg [] ?_) | (refine q_load (by rfl) (by rfl) (by rfl) (by rfl) (upd_same _ _ _) (by rfl) ?_) | (refine q_val (by rfl) (by rfl) (by rfl) (by rfl) ?_) | (refine q_blk ?_) | (refine q_skip ?_) | (refine q_ct (by rfl) ?_) | (refine q_cf (by rfl) ?_) | (refine q_not (by rfl) (by rfl) ?_) | (refine q_bn ?_) | (refine q_be ?_) | (refine q_exit ?_) | (refine q_te ?_) | (refine q_ret ?_) | (refine q_tr ?_) | (refine q_br ?_))
    refine q_if rfl ?_ ?_
    · intro h
      have h : ((byts x).length : Int) > 65535 := of_decide_eq_true h
      rw [byts_len] at h
      repeat (first | (refine q_tn ?_) | (refine q_nil ?_) | (refine q_seq ?_) | (refine q_reg [] ?_) | (refine q_load (by rfl) (by rfl) (by rfl) (by rfl) (upd_same _ _ _) (by rfl) ?_) | (refine q_val (by rfl) (by rfl) (by rfl) (by rfl) ?_) | (refine q_blk ?_) | (refine q_skip ?_) | (refine q_ct (by rfl) ?_) | (refine q_cf (by rfl) ?_) | (refine q_not (by rfl) (by rfl) ?_) | (refine q_bn ?_) | (refine q_be ?_) | (refine q_exit ?_) | (refine q_te ?_) | (refine q_ret ?_) | (refine q_tr ?_) | (refine q_br ?_))
      exact q_er rfl (AV.le_refl _) (SgLe.refl _) ⟨by have : ls.any long = true := List.any_eq_true.2 ⟨x, hmem, by simp [long]; omega⟩
                                                      rw [this]; rfl, rfl⟩
    · intro h
      have h : ¬ ((byts x).length : Int) > 65535 := of_decide_eq_false h
      rw [byts_len] at h
      repeat (first | (refine q_tn ?_) | (refine q_nil ?_) | (refine q_seq ?_) | (refine q_reg [] ?_) | (refine q_load (by rfl) (by rfl) (by rfl) (by rfl) (upd_same _ _ _) (by rfl) ?_) | (refine q_val (by rfl) (by rfl) (by rfl) (by rfl) ?_) | (refine q_blk ?_) | (refine q_skip ?_) | (refine q_ct (by rfl) ?_) | (refine q_cf (by rfl) ?_) | (refine q_not (by rfl) (by rfl) ?_) | (refine q_bn ?_) | (refine q_be ?_) | (refine q_exit ?_) | (refine q_te ?_) | (refine q_ret ?_) | (refine q_tr ?_) | (refine q_br ?_))
      exact ⟨j - 1, ⟨15, frL [(5, .row 1 (rowsOf ls)), (6, pi ls.length), (7, pi (i + 1 : Nat))], σ⟩, by omega,
        Sub.mk' rfl ⟨⟨_, rfl, AV.le_refl _⟩, ⟨_, rfl, AV.le_refl _⟩, ⟨_, rfl, AV.le_of_eq (by rw [wrap_i64 _ (by omega) (by omega)]; rfl)⟩, trivial⟩ (SgLe.refl _), i + 1, by omega, by rw [htk, List.any_append, hall]; simp [long]; omega, rfl⟩
  · intro hge
    have hge : ¬ ((i : Int) < ls.length) := of_decide_eq_false hge
    obtain rfl : i = ls.length := by omega
    rw [List.take_length] at hall
    repeat (first | (refine q_tn ?_) | (refine q_nil ?_) | (refine q_seq ?_) | (refine q_reg [] ?_) | (refine q_load (by rfl) (by rfl) (by rfl) (by rfl) (upd_same _ _ _) (by rfl) ?_) | (refine q_val (by rfl) (by rfl) (by rfl) (by rfl) ?_) | (refine q_blk ?_) | (refine q_skip ?_) | (refine q_ct (by rfl) ?_) | (refine q_cf (by rfl) ?_) | (refine q_not (by rfl) (by rfl) ?_) | (refine q_bn ?_) | (refine q_be ?_) | (refine q_exit ?_) | (refine q_te ?_) | (refine q_ret ?_) | (refine q_tr ?_) | (refine q_br ?_))
    exact q_er rfl (AV.le_refl _) (SgLe.refl _) ⟨by rw [hall]; rfl, rfl⟩
end Go.Ab
