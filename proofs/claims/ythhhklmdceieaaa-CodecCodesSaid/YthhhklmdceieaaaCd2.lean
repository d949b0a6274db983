/- A part of the proof of the seat's rows, said of the kit's own model: the codec's writer: number, small, flag, text. Conditions: as each theorem says. -/
import Derived.Test.YthhhklmdceieaaaCd1
namespace Go.Ab
open Go Go.Proofs
set_option linter.unusedVariables false
set_option linter.unusedSimpArgs false
set_option maxRecDepth 100000
/-- A writer: its bytes, and whether something can't be coded. -/
def Wr (σ : Sg) (b : Nat) (h : Hdr) (l : List Int) (bad : Bool) : Sg := ⟨upd σ.vars b [.own h (byts l), .v (.bool bad)], tipSet σ.tips h l.length⟩
abbrev pt (b : Nat) : AV := .v (.pointer (some ⟨b, 0, none⟩))
abbrev pi (n : Int) : AV := .v (.int .i64 n)
abbrev pb (b : Bool) : AV := .v (.bool b)
/-- What a writer's function does: bytes more, and perhaps bad. -/
def Wrote (σ : Sg) (b : Nat) (l : List Int) (bad : Bool) (r : AV) (σ' : Sg) : Prop := r = .tup [] ∧ ∃ h, h.sz = 1 ∧ Free σ.tips h ∧ σ' = Wr σ b h l bad
theorem wr_le {σ : Sg} {b : Nat} {h : Hdr} {l l' : List Int} {bad bad' : Bool} (e : l = l') (e' : bad = bad') : SgLe (Wr σ b h l bad) (Wr σ b h l' bad') := .of_eq (by rw [e, e'])
def u64 (n : Int) : Int := IntKind.u64.wrap n
theorem u64_range (n : Int) : 0 ≤ u64 n ∧ u64 n < 18446744073709551616 := by
  unfold u64 IntKind.wrap; simp [IntKind.bits, IntKind.signed]; omega
section
variable (σ : Sg) (b : Nat) (h : Hdr) (l : List Int) (bad : Bool) (hs : h.sz = 1) (hF : Free σ.tips h)
include hs hF
theorem num_spec (n : Int) (hl : l.length ≤ 1000000000) : ACalls Try.prog 43 [pt b, pi n] (Wr σ b h l bad) (Wrote σ b (l ++ be (u64 n) 8) bad) := by
  refine q_body Try.func43 rfl (by kernel_rfl) Try.ntmps43 (Nat.le_of_ble_eq_true rfl) ?_
  repeat (first | (refine q_tn ?_) | (refine q_nil ?_) | (refine q_seq ?_) | (refine q_reg [] ?_) | (refine q_load (by rfl) (by rfl) (by rfl) (by rfl) (upd_same _ _ _) (by rfl) ?_) | (refine q_val (by rfl) (by rfl) (by rfl) (by rfl) ?_) | (refine q_blk ?_) | (refine q_skip ?_) | (refine q_ct (by rfl) ?_) | (refine q_cf (by rfl) ?_) | (refine q_not (by rfl) (by rfl) ?_) | (refine q_bn ?_) | (refine q_be ?_) | (refine q_exit ?_) | (refine q_te ?_) | (refine q_ret ?_) | (refine q_tr ?_) | (refine q_br ?_))
  refine q_call (f := 64) (by rfl) (by rfl) (by rfl) (by rfl) ((put_spec _ (u64 n) 8 (u64_range n).1 (u64_range n).2 (by omega) (by omega)).mono ?_)
  rintro _ _ ⟨rfl, rfl⟩
  repeat (first | (refine q_tn ?_) | (refine q_nil ?_) | (refine q_seq ?_) | (refine q_reg [] ?_) | (refine q_load (by rfl) (by rfl) (by rfl) (by rfl) (upd_same _ _ _) (by rfl) ?_) | (refine q_val (by rfl) (by rfl) (by rfl) (by rfl) ?_) | (refine q_blk ?_) | (refine q_skip ?_) | (refine q_ct (by rfl) ?_) | (refine q_cf (by rfl) ?_) | (refine q_not (by rfl) (by rfl) ?_) | (refine q_bn ?_) | (refine q_be ?_) | (refine q_exit ?_) | (refine q_te ?_) | (refine q_ret ?_) | (refine q_tr ?_) | (refine q_br ?_))
  refine q_w (by rfl) (by rfl) (by rfl) (by rfl) ?_
  refine AO.append (T := σ.tips) (h := h) (es := byts l) (ys := byts (be (u64 n) 8)) rfl e22 ni22 s5 y5 z5 rfl (by simp [AV.base?, hs]) rfl (by simp [be_len]; omega) (by simp [be_len]; omega) (congrArg (tipSet σ.tips h) (by simp)) hF ?_
  intro h3 hs3 hF3
  repeat (first | (refine q_tn ?_) | (refine q_nil ?_) | (refine q_seq ?_) | (refine q_reg [] ?_) | (refine q_load (by rfl) (by rfl) (by rfl) (by rfl) (upd_same _ _ _) (by rfl) ?_) | (refine q_val (by rfl) (by rfl) (by rfl) (by rfl) ?_) | (refine q_blk ?_) | (refine q_skip ?_) | (refine q_ct (by rfl) ?_) | (refine q_cf (by rfl) ?_) | (refine q_not (by rfl) (by rfl) ?_) | (refine q_bn ?_) | (refine q_be ?_) | (refine q_exit ?_) | (refine q_te ?_) | (refine q_ret ?_) | (refine q_tr ?_) | (refine q_br ?_))
  refine q_store (by rfl) (by rfl) (by rfl) (by rfl) (by rfl) (by rfl) (by rfl) (by rfl) (upd_same _ _ _) (Nat.le_of_ble_eq_true rfl) ?_
  repeat (first | (refine q_tn ?_) | (refine q_nil ?_) | (refine q_seq ?_) | (refine q_reg [] ?_) | (refine q_load (by rfl) (by rfl) (by rfl) (by rfl) (upd_same _ _ _) (by rfl) ?_) | (refine q_val (by rfl) (by rfl) (by rfl) (by rfl) ?_) | (refine q_blk ?_) | (refine q_skip ?_) | (refine q_ct (by rfl) ?_) | (refine q_cf (by rfl) ?_) | (refine q_not (by rfl) (by rfl) ?_) | (refine q_bn ?_) | (refine q_be ?_) | (refine q_exit ?_) | (refine q_te ?_) | (refine q_ret ?_) | (refine q_tr ?_) | (refine q_br ?_))
  refine q_en rfl (AV.le_refl _) (SgLe.of_eq ?_) ⟨rfl, h3, hs3, hF3, rfl⟩
  show (⟨upd (upd σ.vars b _) b [.own h3 (byts l ++ byts (be (u64 n) 8)), .v (.bool bad)], tipSet σ.tips h3 ((byts l).length + (byts (be (u64 n) 8)).length)⟩ : Sg) = Wr σ b h3 (l ++ be (u64 n) 8) bad
  rw [upd_upd]; simp [Wr, byts_append]
theorem small_spec (n : Int) (hl : l.length ≤ 1000000000) : ACalls Try.prog 17 [pt b, pi n] (Wr σ b h l bad) (Wrote σ b (l ++ [n % 256]) (bad || decide (n < 0) || decide (n > 255))) := by
  refine q_body Try.func17 rfl (by kernel_rfl) Try.ntmps17 (Nat.le_of_ble_eq_true rfl) ?_
  cases bad <;> cases h1 : decide (n < 0) <;> cases h2 : decide (n > 255)
  all_goals
    repeat (first | (refine q_tn ?_) | (refine q_nil ?_) | (refine q_seq ?_) | (refine q_reg [] ?_) | (refine q_load (by rfl) (by rfl) (by rfl) (by rfl) (upd_same _ _ _) (by rfl) ?_) | (refine q_val (by rfl) (by rfl) (by rfl) (by rfl) ?_) | (refine q_blk ?_) | (refine q_skip ?_) | (refine q_ct (by rfl) ?_) | (refine q_cf (by rfl) ?_) | (refine q_not (by rfl) (by rfl) ?_) | (refine q_bn ?_) | (refine q_be ?_) | (refine q_exit ?_) | (refine q_te ?_) | (refine q_ret ?_) | (refine q_tr ?_) | (refine q_br ?_))
    try rw [h1]
    repeat (first | (refine q_tn ?_) | (refine q_nil ?_) | (refine q_seq ?_) | (refine q_reg [] ?_) | (refine q_load (by rfl) (by rfl) (by rfl) (by rfl) (upd_same _ _ _) (by rfl) ?_) | (refine q_val (by rfl) (by rfl) (by rfl) (by rfl) ?_) | (refine q_blk ?_) | (refine q_skip ?_) | (refine q_ct (by rfl) ?_) | (refine q_cf (by rfl) ?_) | (refine q_not (by rfl) (by rfl) ?_) | (refine q_bn ?_) | (refine q_be ?_) | (refine q_exit ?_) | (refine q_te ?_) | (refine q_ret ?_) | (refine q_tr ?_) | (refine q_br ?_))
    try rw [h2]
    repeat (first | (refine q_tn ?_) | (refine q_nil ?_) | (refine q_seq ?_) | (refine q_reg [] ?_) | (refine q_load (by rfl) (by rfl) (by rfl) (by rfl) (upd_same _ _ _) (by rfl) ?_) | (refine q_val (by rfl) (by rfl) (by rfl) (by rfl) ?_) | (refine q_blk ?_) | (refine q_skip ?_) | (refine q_ct (by rfl) ?_) | (refine q_cf (by rfl) ?_) | (refine q_not (by rfl) (by rfl) ?_) | (refine q_bn ?_) | (refine q_be ?_) | (refine q_exit ?_) | (refine q_te ?_) | (refine q_ret ?_) | (refine q_tr ?_) | (refine q_br ?_))
    refine q_store (by rfl) (by rfl) (by rfl) (by rfl) (by rfl) (by rfl) (by rfl) (by rfl) (upd_same _ _ _) (Nat.le_of_ble_eq_true rfl) ?_
    repeat (first | (refine q_tn ?_) | (refine q_nil ?_) | (refine q_seq ?_) | (refine q_reg [] ?_) | (refine q_load (by rfl) (by rfl) (by rfl) (by rfl) (upd_same _ _ _) (by rfl) ?_) | (refine q_val (by rfl) (by rfl) (by rfl) (by rfl) ?_) | (refine q_blk ?_) | (refine q_skip ?_) | (refine q_ct (by rfl) ?_) | (refine q_cf (by rfl) ?_) | (refine q_not (by rfl) (by rfl) ?_) | (refine q_bn ?_) | (refine q_be ?_) | (refine q_exit ?_) | (refine q_te ?_) | (refine q_ret ?_) | (refine q_tr ?_) | (refine q_br ?_))
    refine q_w (by rfl) (by rfl) (by rfl) (by rfl) ?_
    refine AO.append (T := σ.tips) (h := h) (es := byts l) (ys := [[.v (.int .u8 (IntKind.u8.wrap n))]]) rfl e22 ni22 s5 y5 z5 rfl (by simp [AV.base?, hs]) rfl (by simp; omega) (by simp; omega) (congrArg (tipSet σ.tips h) (by simp)) hF ?_
    intro h3 hs3 hF3
    repeat (first | (refine q_tn ?_) | (refine q_nil ?_) | (refine q_seq ?_) | (refine q_reg [] ?_) | (refine q_load (by rfl) (by rfl) (by rfl) (by rfl) (upd_same _ _ _) (by rfl) ?_) | (refine q_val (by rfl) (by rfl) (by rfl) (by rfl) ?_) | (refine q_blk ?_) | (refine q_skip ?_) | (refine q_ct (by rfl) ?_) | (refine q_cf (by rfl) ?_) | (refine q_not (by rfl) (by rfl) ?_) | (refine q_bn ?_) | (refine q_be ?_) | (refine q_exit ?_) | (refine q_te ?_) | (refine q_ret ?_) | (refine q_tr ?_) | (refine q_br ?_))
    refine q_store (by rfl) (by rfl) (by rfl) (by rfl) (by rfl) (by rfl) (by rfl) (by rfl) (upd_same _ _ _) (Nat.le_of_ble_eq_true rfl) ?_
    repeat (first | (refine q_tn ?_) | (refine q_nil ?_) | (refine q_seq ?_) | (refine q_reg [] ?_) | (refine q_load (by rfl) (by rfl) (by rfl) (by rfl) (upd_same _ _ _) (by rfl) ?_) | (refine q_val (by rfl) (by rfl) (by rfl) (by rfl) ?_) | (refine q_blk ?_) | (refine q_skip ?_) | (refine q_ct (by rfl) ?_) | (refine q_cf (by rfl) ?_) | (refine q_not (by rfl) (by rfl) ?_) | (refine q_bn ?_) | (refine q_be ?_) | (refine q_exit ?_) | (refine q_te ?_) | (refine q_ret ?_) | (refine q_tr ?_) | (refine q_br ?_))
    refine q_en rfl (AV.le_refl _) (SgLe.of_eq ?_) ⟨rfl, h3, hs3, hF3, rfl⟩
    show (⟨upd (upd (upd σ.vars b _) b _) b [.own h3 (byts l ++ [[.v (.int .u8 (IntKind.u8.wrap n))]]), _], tipSet σ.tips h3 ((byts l).length + [[AV.v (.int .u8 (IntKind.u8.wrap n))]].length)⟩ : Sg) = Wr σ b h3 _ _
    rw [upd_upd, upd_upd, wrap8]; simp [Wr, byts_append, byts]
theorem flag_spec (f : Bool) (hl : l.length ≤ 1000000000) : ACalls Try.prog 45 [pt b, pb f] (Wr σ b h l bad) (Wrote σ b (l ++ [if f then 1 else 0]) bad) := by
  refine q_body Try.func45 rfl (by kernel_rfl) Try.ntmps45 (Nat.le_of_ble_eq_true rfl) ?_
  cases f
  all_goals
    repeat (first | (refine q_tn ?_) | (refine q_nil ?_) | (refine q_seq ?_) | (refine q_reg [] ?_) | (refine q_load (by rfl) (by rfl) (by rfl) (by rfl) (upd_same _ _ _) (by rfl) ?_) | (refine q_val (by rfl) (by rfl) (by rfl) (by rfl) ?_) | (refine q_blk ?_) | (refine q_skip ?_) | (refine q_ct (by rfl) ?_) | (refine q_cf (by rfl) ?_) | (refine q_not (by rfl) (by rfl) ?_) | (refine q_bn ?_) | (refine q_be ?_) | (refine q_exit ?_) | (refine q_te ?_) | (refine q_ret ?_) | (refine q_tr ?_) | (refine q_br ?_))
    refine q_w (by rfl) (by rfl) (by rfl) (by rfl) ?_
    refine AO.append (T := σ.tips) (h := h) (es := byts l) (ys := [[.v (.int .u8 _)]]) rfl e22 ni22 s5 y5 z5 rfl (by simp [AV.base?, hs]) rfl (by simp; omega) (by simp; omega) (congrArg (tipSet σ.tips h) (by simp)) hF ?_
    intro h3 hs3 hF3
    repeat (first | (refine q_tn ?_) | (refine q_nil ?_) | (refine q_seq ?_) | (refine q_reg [] ?_) | (refine q_load (by rfl) (by rfl) (by rfl) (by rfl) (upd_same _ _ _) (by rfl) ?_) | (refine q_val (by rfl) (by rfl) (by rfl) (by rfl) ?_) | (refine q_blk ?_) | (refine q_skip ?_) | (refine q_ct (by rfl) ?_) | (refine q_cf (by rfl) ?_) | (refine q_not (by rfl) (by rfl) ?_) | (refine q_bn ?_) | (refine q_be ?_) | (refine q_exit ?_) | (refine q_te ?_) | (refine q_ret ?_) | (refine q_tr ?_) | (refine q_br ?_))
    refine q_store (by rfl) (by rfl) (by rfl) (by rfl) (by rfl) (by rfl) (by rfl) (by rfl) (upd_same _ _ _) (Nat.le_of_ble_eq_true rfl) ?_
    repeat (first | (refine q_tn ?_) | (refine q_nil ?_) | (refine q_seq ?_) | (refine q_reg [] ?_) | (refine q_load (by rfl) (by rfl) (by rfl) (by rfl) (upd_same _ _ _) (by rfl) ?_) | (refine q_val (by rfl) (by rfl) (by rfl) (by rfl) ?_) | (refine q_blk ?_) | (refine q_skip ?_) | (refine q_ct (by rfl) ?_) | (refine q_cf (by rfl) ?_) | (refine q_not (by rfl) (by rfl) ?_) | (refine q_bn ?_) | (refine q_be ?_) | (refine q_exit ?_) | (refine q_te ?_) | (refine q_ret ?_) | (refine q_tr ?_) | (refine q_br ?_))
    refine q_en rfl (AV.le_refl _) (SgLe.of_eq ?_) ⟨rfl, h3, hs3, hF3, rfl⟩
    show (⟨upd (upd σ.vars b _) b [.own h3 (byts l ++ [[.v (.int .u8 _)]]), _], tipSet σ.tips h3 ((byts l).length + [[AV.v (.int .u8 _)]].length)⟩ : Sg) = Wr σ b h3 _ _
    rw [upd_upd]; simp [Wr, byts_append, byts]
/-- A text's bytes, and whether it is too long. -/
def tx (t : List Int) : List Int := if t.length > 65535 then [] else be t.length 2 ++ t
theorem text_spec (t : List Int) (hl : l.length ≤ 1000000000) : ACalls Try.prog 42 [pt b, .row 1 (byts t)] (Wr σ b h l bad) (Wrote σ b (l ++ tx t) (bad || decide (t.length > 65535))) := by
  refine q_body Try.func42 rfl (by kernel_rfl) Try.ntmps42 (Nat.le_of_ble_eq_true rfl) ?_
  repeat (first | (refine q_tn ?_) | (refine q_nil ?_) | (refine q_seq ?_) | (refine q_reg [] ?_) | (refine q_load (by rfl) (by rfl) (by rfl) (by rfl) (upd_same _ _ _) (by rfl) ?_) | (refine q_val (by rfl) (by rfl) (by rfl) (by rfl) ?_) | (refine q_blk ?_) | (refine q_skip ?_) | (refine q_ct (by rfl) ?_) | (refine q_cf (by rfl) ?_) | (refine q_not (by rfl) (by rfl) ?_) | (refine q_bn ?_) | (refine q_be ?_) | (refine q_exit ?_) | (refine q_te ?_) | (refine q_ret ?_) | (refine q_tr ?_) | (refine q_br ?_))
  refine q_if rfl ?_ ?_
  · intro hlt
    have hlt : ((byts t).length : Int) > 65535 := of_decide_eq_true hlt
    rw [byts_len] at hlt
    repeat (first | (refine q_tn ?_) | (refine q_nil ?_) | (refine q_seq ?_) | (refine q_reg [] ?_) | (refine q_load (by rfl) (by rfl) (by rfl) (by rfl) (upd_same _ _ _) (by rfl) ?_) | (refine q_val (by rfl) (by rfl) (by rfl) (by rfl) ?_) | (refine q_blk ?_) | (refine q_skip ?_) | (refine q_ct (by rfl) ?_) | (refine q_cf (by rfl) ?_) | (refine q_not (by rfl) (by rfl) ?_) | (refine q_bn ?_) | (refine q_be ?_) | (refine q_exit ?_) | (refine q_te ?_) | (refine q_ret ?_) | (refine q_tr ?_) | (refine q_br ?_))
    refine q_store (by rfl) (by rfl) (by rfl) (by rfl) (by rfl) (by rfl) (by rfl) (by rfl) (upd_same _ _ _) (Nat.le_of_ble_eq_true rfl) ?_
    repeat (first | (refine q_tn ?_) | (refine q_nil ?_) | (refine q_seq ?_) | (refine q_reg [] ?_) | (refine q_load (by rfl) (by rfl) (by rfl) (by rfl) (upd_same _ _ _) (by rfl) ?_) | (refine q_val (by rfl) (by rfl) (by rfl) (by rfl) ?_) | (refine q_blk ?_) | (refine q_skip ?_) | (refine q_ct (by rfl) ?_) | (refine q_cf (by rfl) ?_) | (refine q_not (by rfl) (by rfl) ?_) | (refine q_bn ?_) | (refine q_be ?_) | (refine q_exit ?_) | (refine q_te ?_) | (refine q_ret ?_) | (refine q_tr ?_) | (refine q_br ?_))
    refine q_er rfl (AV.le_refl _) (SgLe.of_eq ?_) ⟨rfl, h, hs, hF, rfl⟩
    show (⟨upd (upd σ.vars b _) b [.own h (byts l), .v (.bool true)], tipSet σ.tips h l.length⟩ : Sg) = _
    have e : t.length > 65535 := by omega
    rw [upd_upd]; simp [Wr, tx, e]
  · intro hge
    have hge : ¬ ((byts t).length : Int) > 65535 := of_decide_eq_false hge
    rw [byts_len] at hge
    have e : ¬ t.length > 65535 := by omega
    repeat (first | (refine q_tn ?_) | (refine q_nil ?_) | (refine q_seq ?_) | (refine q_reg [] ?_) | (refine q_load (by rfl) (by rfl) (by rfl) (by rfl) (upd_same _ _ _) (by rfl) ?_) | (refine q_val (by rfl) (by rfl) (by rfl) (by rfl) ?_) | (refine q_blk ?_) | (refine q_skip ?_) | (refine q_ct (by rfl) ?_) | (refine q_cf (by rfl) ?_) | (refine q_not (by rfl) (by rfl) ?_) | (refine q_bn ?_) | (refine q_be ?_) | (refine q_exit ?_) | (refine q_te ?_) | (refine q_ret ?_) | (refine q_tr ?_) | (refine q_br ?_))
    refine q_call (f := 64) (by rfl) (by rfl) (by rfl) (by rfl) ((put_spec _ (IntKind.u64.wrap ((byts t).length : Int)) 2 (u64_range _).1 (by rw [byts_len, wrap_u64 _ (by omega) (by omega)]; omega) (by omega) (by omega)).mono ?_)
    rintro _ _ ⟨rfl, rfl⟩
    repeat (first | (refine q_tn ?_) | (refine q_nil ?_) | (refine q_seq ?_) | (refine q_reg [] ?_) | (refine q_load (by rfl) (by rfl) (by rfl) (by rfl) (upd_same _ _ _) (by rfl) ?_) | (refine q_val (by rfl) (by rfl) (by rfl) (by rfl) ?_) | (refine q_blk ?_) | (refine q_skip ?_) | (refine q_ct (by rfl) ?_) | (refine q_cf (by rfl) ?_) | (refine q_not (by rfl) (by rfl) ?_) | (refine q_bn ?_) | (refine q_be ?_) | (refine q_exit ?_) | (refine q_te ?_) | (refine q_ret ?_) | (refine q_tr ?_) | (refine q_br ?_))
    refine q_w (by rfl) (by rfl) (by rfl) (by rfl) ?_
    refine AO.append (T := σ.tips) (h := h) (es := byts l) (ys := byts (be (IntKind.u64.wrap ((byts t).length : Int)) 2)) rfl e22 ni22 s5 y5 z5 rfl (by simp [AV.base?, hs]) rfl (by simp [be_len]; omega) (by simp [be_len]; omega) (congrArg (tipSet σ.tips h) (by simp)) hF ?_
    intro h3 hs3 hF3
    repeat (first | (refine q_tn ?_) | (refine q_nil ?_) | (refine q_seq ?_) | (refine q_reg [] ?_) | (refine q_load (by rfl) (by rfl) (by rfl) (by rfl) (upd_same _ _ _) (by rfl) ?_) | (refine q_val (by rfl) (by rfl) (by rfl) (by rfl) ?_) | (refine q_blk ?_) | (refine q_skip ?_) | (refine q_ct (by rfl) ?_) | (refine q_cf (by rfl) ?_) | (refine q_not (by rfl) (by rfl) ?_) | (refine q_bn ?_) | (refine q_be ?_) | (refine q_exit ?_) | (refine q_te ?_) | (refine q_ret ?_) | (refine q_tr ?_) | (refine q_br ?_))
    refine q_w (by rfl) (by rfl) (by rfl) (by rfl) ?_
    refine AO.append (T := σ.tips) (h := h3) (es := byts l ++ byts (be (IntKind.u64.wrap ((byts t).length : Int)) 2)) (ys := byts t) rfl e22 ni22 s5 y5 z5 rfl (by simp [AV.base?, hs3]) rfl (by simp [be_len]; omega) (by simp [be_len]; omega) (congrArg (tipSet σ.tips h3) (by simp)) hF3 ?_
    intro h4 hs4 hF4
    repeat (first | (refine q_tn ?_) | (refine q_nil ?_) | (refine q_seq ?_) | (refine q_reg [] ?_) | (refine q_load (by rfl) (by rfl) (by rfl) (by rfl) (upd_same _ _ _) (by rfl) ?_) | (refine q_val (by rfl) (by rfl) (by rfl) (by rfl) ?_) | (refine q_blk ?_) | (refine q_skip ?_) | (refine q_ct (by rfl) ?_) | (refine q_cf (by rfl) ?_) | (refine q_not (by rfl) (by rfl) ?_) | (refine q_bn ?_) | (refine q_be ?_) | (refine q_exit ?_) | (refine q_te ?_) | (refine q_ret ?_) | (refine q_tr ?_) | (refine q_br ?_))
    refine q_store (by rfl) (by rfl) (by rfl) (by rfl) (by rfl) (by rfl) (by rfl) (by rfl) (upd_same _ _ _) (Nat.le_of_ble_eq_true rfl) ?_
    repeat (first | (refine q_tn ?_) | (refine q_nil ?_) | (refine q_seq ?_) | (refine q_reg [] ?_) | (refine q_load (by rfl) (by rfl) (by rfl) (by rfl) (upd_same _ _ _) (by rfl) ?_) | (refine q_val (by rfl) (by rfl) (by rfl) (by rfl) ?_) | (refine q_blk ?_) | (refine q_skip ?_) | (refine q_ct (by rfl) ?_) | (refine q_cf (by rfl) ?_) | (refine q_not (by rfl) (by rfl) ?_) | (refine q_bn ?_) | (refine q_be ?_) | (refine q_exit ?_) | (refine q_te ?_) | (refine q_ret ?_) | (refine q_tr ?_) | (refine q_br ?_))
    refine q_en rfl (AV.le_refl _) (SgLe.of_eq ?_) ⟨rfl, h4, hs4, hF4, rfl⟩
    show (⟨upd (upd σ.vars b _) b [.own h4 (byts l ++ byts (be (IntKind.u64.wrap ((byts t).length : Int)) 2) ++ byts t), _], tipSet σ.tips h4 ((byts l ++ byts (be (IntKind.u64.wrap ((byts t).length : Int)) 2)).length + (byts t).length)⟩ : Sg) = Wr σ b h4 _ _
    rw [upd_upd]
    rw [byts_len, wrap_u64 _ (by omega) (by omega)]
    simp [Wr, byts_append, tx, e, be_len, Nat.add_assoc]
end
end Go.Ab
