/- A part of the proof of the seat's rows, said of the kit's own model: the codec's writer: query, write, erase. Conditions: as each theorem says. -/
import Derived.Test.YthhhklmdceieaaaCd2
namespace Go.Ab
open Go Go.Proofs
set_option linter.unusedVariables false
set_option linter.unusedSimpArgs false
set_option maxRecDepth 100000
section
variable {P : Program} {ow : List Nat} {ops : Array Oper} {K : St → Prop} {l : List Oper} {o : Oper} {s : St} {Q : Exit → St → Prop} {x : Code}
theorem q_sig {σ : Sg} (e : s.σ = σ) (h : RV P ow ops K l { s with σ := σ }) : RV P ow ops K l s := by subst e; exact h
theorem q_sigA {σ : Sg} (e : s.σ = σ) (h : AW P x Q { s with σ := σ }) : AW P x Q s := by subst e; exact h
theorem q_wcall {f : FuncId} {args : Array Operand} {ts : Array TypeId} {vals : List AV} {σ : Sg} {b : Nat} {h : Hdr} {by0 by1 : List Int} {bad bad' : Bool} (ho : o.op = .call { callee := .value (.func f), args := args, argTypes := ts }) (hg : gate ops s o.guard = some true) (hx : argsA s args.toList = some vals) (hd : dstOk s o.dst = true) (hσ : s.σ = Wr σ b h by0 bad)
    (hsp : ACalls P f vals (Wr σ b h by0 bad) (Wrote σ b by1 bad')) (k : ∀ h', h'.sz = 1 → Free σ.tips h' → RV P ow ops K l ({ s with σ := Wr σ b h' by1 bad' }.puto o.dst (.tup []))) : RV P ow ops K (o :: l) s := by
  refine q_call ho hg hx hd ?_
  rw [hσ]
  refine hsp.mono ?_
  rintro _ _ ⟨rfl, h', h1, h2, rfl⟩
  exact k h' h1 h2
end
theorem upd_none {f : Nat → Option (List AV)} {b k : Nat} {x : List AV} (h : upd f b x k = none) : k ≠ b ∧ f k = none := by
  unfold upd at h
  split at h
  · cases h
  · rename_i e; exact ⟨e, h⟩
theorem upd_swap {b c : Nat} (h : b ≠ c) (f : Nat → Option (List AV)) (x y : List AV) : upd (upd f b x) c y = upd (upd f c y) b x := by
  funext k
  by_cases e : k = b
  · subst e; simp [upd, h]
  · simp [upd, e]
theorem wr_box {σ : Sg} {b c : Nat} {h : Hdr} {l : List Int} {bad : Bool} {x : List AV} (hne : c ≠ b) : (⟨upd (Wr σ b h l bad).vars c x, (Wr σ b h l bad).tips⟩ : Sg) = Wr ⟨upd σ.vars c x, σ.tips⟩ b h l bad := by
  unfold Wr
  rw [upd_swap (Ne.symm hne)]
theorem wr_drop {σ : Sg} {b c : Nat} {h : Hdr} {l l' : List Int} {bad bad' : Bool} {x : List AV} (hc : σ.vars c = none) (hne : c ≠ b) (e : l = l') (e' : bad = bad') : SgLe (Wr ⟨upd σ.vars c x, σ.tips⟩ b h l bad) (Wr σ b h l' bad') := by
  subst e; subst e'
  rw [← wr_box hne]
  exact SgLe.var (by rw [show (Wr σ b h l bad).vars c = σ.vars c from upd_ne _ hne]; exact hc)
theorem tx_len (t : List Int) : (tx t).length ≤ 65537 := by unfold tx; split <;> simp [be_len]; omega
/-- A query, a write, an erasure, as they are told. -/
structure Qry where
  key : List Int
  en : List Int
  at_ : Int
  lim : Int
  sort : Int
  desc : Bool
  keys : Bool
  count : Bool
  minM : Int
  maxM : Int
  minC : Int
  maxC : Int
structure Wri where
  key : List Int
  val : List Int
  lease : Int
  prev : Bool
structure Ers where
  key : List Int
  en : List Int
  prev : Bool
def Qry.av (q : Qry) : List AV := [.row 1 (byts q.key), .row 1 (byts q.en), pi q.at_, pi q.lim, pi q.sort, pb q.desc, pb q.keys, pb q.count, pi q.minM, pi q.maxM, pi q.minC, pi q.maxC]
def Wri.av (q : Wri) : List AV := [.row 1 (byts q.key), .row 1 (byts q.val), pi q.lease, pb q.prev]
def Ers.av (q : Ers) : List AV := [.row 1 (byts q.key), .row 1 (byts q.en), pb q.prev]
def n8 (n : Int) : List Int := be (u64 n) 8
theorem n8_len (n : Int) : (n8 n).length = 8 := be_len _ _
def fl (f : Bool) : List Int := [if f then 1 else 0]
def long (t : List Int) : Bool := decide (t.length > 65535)
def byteN (n : Int) : Bool := decide (n < 0) || decide (n > 255)
def qB (q : Qry) : List Int := tx q.key ++ (tx q.en ++ (n8 q.at_ ++ (n8 q.lim ++ ([q.sort % 256] ++ (fl q.desc ++ (fl q.keys ++ (fl q.count ++ (n8 q.minM ++ (n8 q.maxM ++ (n8 q.minC ++ n8 q.maxC))))))))))
def qBad (q : Qry) : Bool := long q.key || (long q.en || byteN q.sort)
def wB (q : Wri) : List Int := tx q.key ++ (tx q.val ++ (n8 q.lease ++ fl q.prev))
def wBad (q : Wri) : Bool := long q.key || long q.val
def eB (q : Ers) : List Int := tx q.key ++ (tx q.en ++ fl q.prev)
def eBad (q : Ers) : Bool := long q.key || long q.en
theorem qB_len (q : Qry) : (qB q).length ≤ 200000 := by have := tx_len q.key; have := tx_len q.en; simp [qB, n8_len, fl]; omega
theorem wB_len (q : Wri) : (wB q).length ≤ 200000 := by have := tx_len q.key; have := tx_len q.val; simp [wB, n8_len, fl]; omega
theorem eB_len (q : Ers) : (eB q).length ≤ 200000 := by have := tx_len q.key; have := tx_len q.en; simp [eB, fl]; omega
section
variable (σ : Sg) (b : Nat) (h : Hdr) (l : List Int) (bad : Bool) (hs : h.sz = 1) (hF : Free σ.tips h)
include hs hF
theorem query_spec (q : Qry) (hl : l.length ≤ 900000000) : ACalls Try.prog 39 [pt b, .agg q.av] (Wr σ b h l bad) (Wrote σ b (l ++ qB q) (bad || qBad q)) := by
  refine q_body Try.func39 rfl (by kernel_rfl) Try.ntmps39 (Nat.le_of_ble_eq_true rfl) ?_
  have t1 := tx_len q.key
  have t2 := tx_len q.en
  repeat (first | (refine q_tn ?_) | (refine q_nil ?_) | (refine q_seq ?_) | (refine q_reg [] ?_) | (refine q_load (by rfl) (by rfl) (by rfl) (by rfl) (upd_same _ _ _) (by rfl) ?_) | (refine q_val (by rfl) (by rfl) (by rfl) (by rfl) ?_) | (refine q_blk ?_) | (refine q_skip ?_) | (refine q_ct (by rfl) ?_) | (refine q_cf (by rfl) ?_) | (refine q_not (by rfl) (by rfl) ?_) | (refine q_bn ?_) | (refine q_be ?_) | (refine q_exit ?_) | (refine q_te ?_) | (refine q_ret ?_) | (refine q_tr ?_) | (refine q_br ?_))
  refine q_w (by rfl) (by rfl) (by rfl) (by rfl) ?_
  refine AO.box (cs := q.av) rfl rfl ?_
  intro c hc _
  obtain ⟨hne, hc⟩ := upd_none hc
  refine q_sig (wr_box hne) ?_
  repeat (first | (refine q_tn ?_) | (refine q_nil ?_) | (refine q_seq ?_) | (refine q_reg [] ?_) | (refine q_load (by rfl) (by rfl) (by rfl) (by rfl) (upd_same _ _ _) (by rfl) ?_) | (refine q_load (by rfl) (by rfl) (by rfl) (by rfl) ((upd_ne _ hne).trans (upd_same _ _ _)) (by rfl) ?_) | (refine q_val (by rfl) (by rfl) (by rfl) (by rfl) ?_) | (refine q_blk ?_) | (refine q_skip ?_) | (refine q_ct (by rfl) ?_) | (refine q_cf (by rfl) ?_) | (refine q_not (by rfl) (by rfl) ?_) | (refine q_bn ?_) | (refine q_be ?_) | (refine q_exit ?_) | (refine q_te ?_) | (refine q_ret ?_) | (refine q_tr ?_) | (refine q_br ?_))
  apply q_wcall (f := 42); exact rfl; exact rfl; exact rfl; exact rfl; exact rfl; exact text_spec ⟨upd σ.vars c q.av, σ.tips⟩ _ _ _ _ hs hF q.key (by omega); intro h hs hF
  repeat (first | (refine q_tn ?_) | (refine q_nil ?_) | (refine q_seq ?_) | (refine q_reg [] ?_) | (refine q_load (by rfl) (by rfl) (by rfl) (by rfl) (upd_same _ _ _) (by rfl) ?_) | (refine q_load (by rfl) (by rfl) (by rfl) (by rfl) ((upd_ne _ hne).trans (upd_same _ _ _)) (by rfl) ?_) | (refine q_val (by rfl) (by rfl) (by rfl) (by rfl) ?_) | (refine q_blk ?_) | (refine q_skip ?_) | (refine q_ct (by rfl) ?_) | (refine q_cf (by rfl) ?_) | (refine q_not (by rfl) (by rfl) ?_) | (refine q_bn ?_) | (refine q_be ?_) | (refine q_exit ?_) | (refine q_te ?_) | (refine q_ret ?_) | (refine q_tr ?_) | (refine q_br ?_))
  apply q_wcall (f := 42); exact rfl; exact rfl; exact rfl; exact rfl; exact rfl; exact text_spec ⟨upd σ.vars c q.av, σ.tips⟩ _ _ _ _ hs hF q.en (by simp; omega); intro h hs hF
  repeat (first | (refine q_tn ?_) | (refine q_nil ?_) | (refine q_seq ?_) | (refine q_reg [] ?_) | (refine q_load (by rfl) (by rfl) (by rfl) (by rfl) (upd_same _ _ _) (by rfl) ?_) | (refine q_load (by rfl) (by rfl) (by rfl) (by rfl) ((upd_ne _ hne).trans (upd_same _ _ _)) (by rfl) ?_) | (refine q_val (by rfl) (by rfl) (by rfl) (by rfl) ?_) | (refine q_blk ?_) | (refine q_skip ?_) | (refine q_ct (by rfl) ?_) | (refine q_cf (by rfl) ?_) | (refine q_not (by rfl) (by rfl) ?_) | (refine q_bn ?_) | (refine q_be ?_) | (refine q_exit ?_) | (refine q_te ?_) | (refine q_ret ?_) | (refine q_tr ?_) | (refine q_br ?_))
  apply q_wcall (f := 43); exact rfl; exact rfl; exact rfl; exact rfl; exact rfl; exact num_spec ⟨upd σ.vars c q.av, σ.tips⟩ _ _ _ _ hs hF q.at_ (by simp; omega); intro h hs hF
  repeat (first | (refine q_tn ?_) | (refine q_nil ?_) | (refine q_seq ?_) | (refine q_reg [] ?_) | (refine q_load (by rfl) (by rfl) (by rfl) (by rfl) (upd_same _ _ _) (by rfl) ?_) | (refine q_load (by rfl) (by rfl) (by rfl) (by rfl) ((upd_ne _ hne).trans (upd_same _ _ _)) (by rfl) ?_) | (refine q_val (by rfl) (by rfl) (by rfl) (by rfl) ?_) | (refine q_blk ?_) | (refine q_skip ?_) | (refine q_ct (by rfl) ?_) | (refine q_cf (by rfl) ?_) | (refine q_not (by rfl) (by rfl) ?_) | (refine q_bn ?_) | (refine q_be ?_) | (refine q_exit ?_) | (refine q_te ?_) | (refine q_ret ?_) | (refine q_tr ?_) | (refine q_br ?_))
  apply q_wcall (f := 43); exact rfl; exact rfl; exact rfl; exact rfl; exact rfl; exact num_spec ⟨upd σ.vars c q.av, σ.tips⟩ _ _ _ _ hs hF q.lim (by (try simp [be_len]); omega); intro h hs hF
  repeat (first | (refine q_tn ?_) | (refine q_nil ?_) | (refine q_seq ?_) | (refine q_reg [] ?_) | (refine q_load (by rfl) (by rfl) (by rfl) (by rfl) (upd_same _ _ _) (by rfl) ?_) | (refine q_load (by rfl) (by rfl) (by rfl) (by rfl) ((upd_ne _ hne).trans (upd_same _ _ _)) (by rfl) ?_) | (refine q_val (by rfl) (by rfl) (by rfl) (by rfl) ?_) | (refine q_blk ?_) | (refine q_skip ?_) | (refine q_ct (by rfl) ?_) | (refine q_cf (by rfl) ?_) | (refine q_not (by rfl) (by rfl) ?_) | (refine q_bn ?_) | (refine q_be ?_) | (refine q_exit ?_) | (refine q_te ?_) | (refine q_ret ?_) | (refine q_tr ?_) | (refine q_br ?_))
  apply q_wcall (f := 17); exact rfl; exact rfl; exact rfl; exact rfl; exact rfl; exact small_spec ⟨upd σ.vars c q.av, σ.tips⟩ _ _ _ _ hs hF q.sort (by (try simp [be_len]); omega); intro h hs hF
  repeat (first | (refine q_tn ?_) | (refine q_nil ?_) | (refine q_seq ?_) | (refine q_reg [] ?_) | (refine q_load (by rfl) (by rfl) (by rfl) (by rfl) (upd_same _ _ _) (by rfl) ?_) | (refine q_load (by rfl) (by rfl) (by rfl) (by rfl) ((upd_ne _ hne).trans (upd_same _ _ _)) (by rfl) ?_) | (refine q_val (by rfl) (by rfl) (by rfl) (by rfl) ?_) | (refine q_blk ?_) | (refine q_skip ?_) | (refine q_ct (by rfl) ?_) | (refine q_cf (by rfl) ?_) | (refine q_not (by rfl) (by rfl) ?_) | (refine q_bn ?_) | (refine q_be ?_) | (refine q_exit ?_) | (refine q_te ?_) | (refine q_ret ?_) | (refine q_tr ?_) | (refine q_br ?_))
  apply q_wcall (f := 45); exact rfl; exact rfl; exact rfl; exact rfl; exact rfl; exact flag_spec ⟨upd σ.vars c q.av, σ.tips⟩ _ _ _ _ hs hF q.desc (by (try simp [be_len]); omega); intro h hs hF
  repeat (first | (refine q_tn ?_) | (refine q_nil ?_) | (refine q_seq ?_) | (refine q_reg [] ?_) | (refine q_load (by rfl) (by rfl) (by rfl) (by rfl) (upd_same _ _ _) (by rfl) ?_) | (refine q_load (by rfl) (by rfl) (by rfl) (by rfl) ((upd_ne _ hne).trans (upd_same _ _ _)) (by rfl) ?_) | (refine q_val (by rfl) (by rfl) (by rfl) (by rfl) ?_) | (refine q_blk ?_) | (refine q_skip ?_) | (refine q_ct (by rfl) ?_) | (refine q_cf (by rfl) ?_) | (refine q_not (by rfl) (by rfl) ?_) | (refine q_bn ?_) | (refine q_be ?_) | (refine q_exit ?_) | (refine q_te ?_) | (refine q_ret ?_) | (refine q_tr ?_) | (refine q_br ?_))
  apply q_wcall (f := 45); exact rfl; exact rfl; exact rfl; exact rfl; exact rfl; exact flag_spec ⟨upd σ.vars c q.av, σ.tips⟩ _ _ _ _ hs hF q.keys (by (try simp [be_len]); omega); intro h hs hF
  repeat (first | (refine q_tn ?_) | (refine q_nil ?_) | (refine q_seq ?_) | (refine q_reg [] ?_) | (refine q_load (by rfl) (by rfl) (by rfl) (by rfl) (upd_same _ _ _) (by rfl) ?_) | (refine q_load (by rfl) (by rfl) (by rfl) (by rfl) ((upd_ne _ hne).trans (upd_same _ _ _)) (by rfl) ?_) | (refine q_val (by rfl) (by rfl) (by rfl) (by rfl) ?_) | (refine q_blk ?_) | (refine q_skip ?_) | (refine q_ct (by rfl) ?_) | (refine q_cf (by rfl) ?_) | (refine q_not (by rfl) (by rfl) ?_) | (refine q_bn ?_) | (refine q_be ?_) | (refine q_exit ?_) | (refine q_te ?_) | (refine q_ret ?_) | (refine q_tr ?_) | (refine q_br ?_))
  apply q_wcall (f := 45); exact rfl; exact rfl; exact rfl; exact rfl; exact rfl; exact flag_spec ⟨upd σ.vars c q.av, σ.tips⟩ _ _ _ _ hs hF q.count (by (try simp [be_len]); omega); intro h hs hF
  repeat (first | (refine q_tn ?_) | (refine q_nil ?_) | (refine q_seq ?_) | (refine q_reg [] ?_) | (refine q_load (by rfl) (by rfl) (by rfl) (by rfl) (upd_same _ _ _) (by rfl) ?_) | (refine q_load (by rfl) (by rfl) (by rfl) (by rfl) ((upd_ne _ hne).trans (upd_same _ _ _)) (by rfl) ?_) | (refine q_val (by rfl) (by rfl) (by rfl) (by rfl) ?_) | (refine q_blk ?_) | (refine q_skip ?_) | (refine q_ct (by rfl) ?_) | (refine q_cf (by rfl) ?_) | (refine q_not (by rfl) (by rfl) ?_) | (refine q_bn ?_) | (refine q_be ?_) | (refine q_exit ?_) | (refine q_te ?_) | (refine q_ret ?_) | (refine q_tr ?_) | (refine q_br ?_))
  apply q_wcall (f := 43); exact rfl; exact rfl; exact rfl; exact rfl; exact rfl; exact num_spec ⟨upd σ.vars c q.av, σ.tips⟩ _ _ _ _ hs hF q.minM (by (try simp [be_len]); omega); intro h hs hF
  repeat (first | (refine q_tn ?_) | (refine q_nil ?_) | (refine q_seq ?_) | (refine q_reg [] ?_) | (refine q_load (by rfl) (by rfl) (by rfl) (by rfl) (upd_same _ _ _) (by rfl) ?_) | (refine q_load (by rfl) (by rfl) (by rfl) (by rfl) ((upd_ne _ hne).trans (upd_same _ _ _)) (by rfl) ?_) | (refine q_val (by rfl) (by rfl) (by rfl) (by rfl) ?_) | (refine q_blk ?_) | (refine q_skip ?_) | (refine q_ct (by rfl) ?_) | (refine q_cf (by rfl) ?_) | (refine q_not (by rfl) (by rfl) ?_) | (refine q_bn ?_) | (refine q_be ?_) | (refine q_exit ?_) | (refine q_te ?_) | (refine q_ret ?_) | (refine q_tr ?_) | (refine q_br ?_))
  apply q_wcall (f := 43); exact rfl; exact rfl; exact rfl; exact rfl; exact rfl; exact num_spec ⟨upd σ.vars c q.av, σ.tips⟩ _ _ _ _ hs hF q.maxM (by (try simp [be_len]); omega); intro h hs hF
  repeat (first | (refine q_tn ?_) | (refine q_nil ?_) | (refine q_seq ?_) | (refine q_reg [] ?_) | (refine q_load (by rfl) (by rfl) (by rfl) (by rfl) (upd_same _ _ _) (by rfl) ?_) | (refine q_load (by rfl) (by rfl) (by rfl) (by rfl) ((upd_ne _ hne).trans (upd_same _ _ _)) (by rfl) ?_) | (refine q_val (by rfl) (by rfl) (by rfl) (by rfl) ?_) | (refine q_blk ?_) | (refine q_skip ?_) | (refine q_ct (by rfl) ?_) | (refine q_cf (by rfl) ?_) | (refine q_not (by rfl) (by rfl) ?_) | (refine q_bn ?_) | (refine q_be ?_) | (refine q_exit ?_) | (refine q_te ?_) | (refine q_ret ?_) | (refine q_tr ?_) | (refine q_br ?_))
  apply q_wcall (f := 43); exact rfl; exact rfl; exact rfl; exact rfl; exact rfl; exact num_spec ⟨upd σ.vars c q.av, σ.tips⟩ _ _ _ _ hs hF q.minC (by (try simp [be_len]); omega); intro h hs hF
  repeat (first | (refine q_tn ?_) | (refine q_nil ?_) | (refine q_seq ?_) | (refine q_reg [] ?_) | (refine q_load (by rfl) (by rfl) (by rfl) (by rfl) (upd_same _ _ _) (by rfl) ?_) | (refine q_load (by rfl) (by rfl) (by rfl) (by rfl) ((upd_ne _ hne).trans (upd_same _ _ _)) (by rfl) ?_) | (refine q_val (by rfl) (by rfl) (by rfl) (by rfl) ?_) | (refine q_blk ?_) | (refine q_skip ?_) | (refine q_ct (by rfl) ?_) | (refine q_cf (by rfl) ?_) | (refine q_not (by rfl) (by rfl) ?_) | (refine q_bn ?_) | (refine q_be ?_) | (refine q_exit ?_) | (refine q_te ?_) | (refine q_ret ?_) | (refine q_tr ?_) | (refine q_br ?_))
  apply q_wcall (f := 43); exact rfl; exact rfl; exact rfl; exact rfl; exact rfl; exact num_spec ⟨upd σ.vars c q.av, σ.tips⟩ _ _ _ _ hs hF q.maxC (by (try simp [be_len]); omega); intro h hs hF
  repeat (first | (refine q_tn ?_) | (refine q_nil ?_) | (refine q_seq ?_) | (refine q_reg [] ?_) | (refine q_load (by rfl) (by rfl) (by rfl) (by rfl) (upd_same _ _ _) (by rfl) ?_) | (refine q_val (by rfl) (by rfl) (by rfl) (by rfl) ?_) | (refine q_blk ?_) | (refine q_skip ?_) | (refine q_ct (by rfl) ?_) | (refine q_cf (by rfl) ?_) | (refine q_not (by rfl) (by rfl) ?_) | (refine q_bn ?_) | (refine q_be ?_) | (refine q_exit ?_) | (refine q_te ?_) | (refine q_ret ?_) | (refine q_tr ?_) | (refine q_br ?_))
  exact q_en rfl (AV.le_refl _) (wr_drop hc hne (by simp [qB, n8, fl]) (by simp [qBad, long, byteN, Bool.or_assoc])) ⟨rfl, h, hs, hF, rfl⟩
theorem write_spec (q : Wri) (hl : l.length ≤ 900000000) : ACalls Try.prog 40 [pt b, .agg q.av] (Wr σ b h l bad) (Wrote σ b (l ++ wB q) (bad || wBad q)) := by
  refine q_body Try.func40 rfl (by kernel_rfl) Try.ntmps40 (Nat.le_of_ble_eq_true rfl) ?_
  have t0 := tx_len q.key
  have t1 := tx_len q.val
  repeat (first | (refine q_tn ?_) | (refine q_nil ?_) | (refine q_seq ?_) | (refine q_reg [] ?_) | (refine q_load (by rfl) (by rfl) (by rfl) (by rfl) (upd_same _ _ _) (by rfl) ?_) | (refine q_val (by rfl) (by rfl) (by rfl) (by rfl) ?_) | (refine q_blk ?_) | (refine q_skip ?_) | (refine q_ct (by rfl) ?_) | (refine q_cf (by rfl) ?_) | (refine q_not (by rfl) (by rfl) ?_) | (refine q_bn ?_) | (refine q_be ?_) | (refine q_exit ?_) | (refine q_te ?_) | (refine q_ret ?_) | (refine q_tr ?_) | (refine q_br ?_))
  refine q_w (by rfl) (by rfl) (by rfl) (by rfl) ?_
  refine AO.box (cs := q.av) rfl rfl ?_
  intro c hc _
  obtain ⟨hne, hc⟩ := upd_none hc
  refine q_sig (wr_box hne) ?_
  repeat (first | (refine q_tn ?_) | (refine q_nil ?_) | (refine q_seq ?_) | (refine q_reg [] ?_) | (refine q_load (by rfl) (by rfl) (by rfl) (by rfl) (upd_same _ _ _) (by rfl) ?_) | (refine q_load (by rfl) (by rfl) (by rfl) (by rfl) ((upd_ne _ hne).trans (upd_same _ _ _)) (by rfl) ?_) | (refine q_val (by rfl) (by rfl) (by rfl) (by rfl) ?_) | (refine q_blk ?_) | (refine q_skip ?_) | (refine q_ct (by rfl) ?_) | (refine q_cf (by rfl) ?_) | (refine q_not (by rfl) (by rfl) ?_) | (refine q_bn ?_) | (refine q_be ?_) | (refine q_exit ?_) | (refine q_te ?_) | (refine q_ret ?_) | (refine q_tr ?_) | (refine q_br ?_))
  apply q_wcall (f := 42); exact rfl; exact rfl; exact rfl; exact rfl; exact rfl; exact text_spec ⟨upd σ.vars c q.av, σ.tips⟩ _ _ _ _ hs hF q.key (by (try simp [be_len]); omega); intro h hs hF
  repeat (first | (refine q_tn ?_) | (refine q_nil ?_) | (refine q_seq ?_) | (refine q_reg [] ?_) | (refine q_load (by rfl) (by rfl) (by rfl) (by rfl) (upd_same _ _ _) (by rfl) ?_) | (refine q_load (by rfl) (by rfl) (by rfl) (by rfl) ((upd_ne _ hne).trans (upd_same _ _ _)) (by rfl) ?_) | (refine q_val (by rfl) (by rfl) (by rfl) (by rfl) ?_) | (refine q_blk ?_) | (refine q_skip ?_) | (refine q_ct (by rfl) ?_) | (refine q_cf (by rfl) ?_) | (refine q_not (by rfl) (by rfl) ?_) | (refine q_bn ?_) | (refine q_be ?_) | (refine q_exit ?_) | (refine q_te ?_) | (refine q_ret ?_) | (refine q_tr ?_) | (refine q_br ?_))
  apply q_wcall (f := 42); exact rfl; exact rfl; exact rfl; exact rfl; exact rfl; exact text_spec ⟨upd σ.vars c q.av, σ.tips⟩ _ _ _ _ hs hF q.val (by (try simp [be_len]); omega); intro h hs hF
  repeat (first | (refine q_tn ?_) | (refine q_nil ?_) | (refine q_seq ?_) | (refine q_reg [] ?_) | (refine q_load (by rfl) (by rfl) (by rfl) (by rfl) (upd_same _ _ _) (by rfl) ?_) | (refine q_load (by rfl) (by rfl) (by rfl) (by rfl) ((upd_ne _ hne).trans (upd_same _ _ _)) (by rfl) ?_) | (refine q_val (by rfl) (by rfl) (by rfl) (by rfl) ?_) | (refine q_blk ?_) | (refine q_skip ?_) | (refine q_ct (by rfl) ?_) | (refine q_cf (by rfl) ?_) | (refine q_not (by rfl) (by rfl) ?_) | (refine q_bn ?_) | (refine q_be ?_) | (refine q_exit ?_) | (refine q_te ?_) | (refine q_ret ?_) | (refine q_tr ?_) | (refine q_br ?_))
  apply q_wcall (f := 43); exact rfl; exact rfl; exact rfl; exact rfl; exact rfl; exact num_spec ⟨upd σ.vars c q.av, σ.tips⟩ _ _ _ _ hs hF q.lease (by (try simp [be_len]); omega); intro h hs hF
  repeat (first | (refine q_tn ?_) | (refine q_nil ?_) | (refine q_seq ?_) | (refine q_reg [] ?_) | (refine q_load (by rfl) (by rfl) (by rfl) (by rfl) (upd_same _ _ _) (by rfl) ?_) | (refine q_load (by rfl) (by rfl) (by rfl) (by rfl) ((upd_ne _ hne).trans (upd_same _ _ _)) (by rfl) ?_) | (refine q_val (by rfl) (by rfl) (by rfl) (by rfl) ?_) | (refine q_blk ?_) | (refine q_skip ?_) | (refine q_ct (by rfl) ?_) | (refine q_cf (by rfl) ?_) | (refine q_not (by rfl) (by rfl) ?_) | (refine q_bn ?_) | (refine q_be ?_) | (refine q_exit ?_) | (refine q_te ?_) | (refine q_ret ?_) | (refine q_tr ?_) | (refine q_br ?_))
  apply q_wcall (f := 45); exact rfl; exact rfl; exact rfl; exact rfl; exact rfl; exact flag_spec ⟨upd σ.vars c q.av, σ.tips⟩ _ _ _ _ hs hF q.prev (by (try simp [be_len]); omega); intro h hs hF
  repeat (first | (refine q_tn ?_) | (refine q_nil ?_) | (refine q_seq ?_) | (refine q_reg [] ?_) | (refine q_load (by rfl) (by rfl) (by rfl) (by rfl) (upd_same _ _ _) (by rfl) ?_) | (refine q_val (by rfl) (by rfl) (by rfl) (by rfl) ?_) | (refine q_blk ?_) | (refine q_skip ?_) | (refine q_ct (by rfl) ?_) | (refine q_cf (by rfl) ?_) | (refine q_not (by rfl) (by rfl) ?_) | (refine q_bn ?_) | (refine q_be ?_) | (refine q_exit ?_) | (refine q_te ?_) | (refine q_ret ?_) | (refine q_tr ?_) | (refine q_br ?_))
  exact q_en rfl (AV.le_refl _) (wr_drop hc hne (by simp [wB, n8, fl]) (by simp [wBad, long, byteN, Bool.or_assoc])) ⟨rfl, h, hs, hF, rfl⟩
theorem erase_spec (q : Ers) (hl : l.length ≤ 900000000) : ACalls Try.prog 41 [pt b, .agg q.av] (Wr σ b h l bad) (Wrote σ b (l ++ eB q) (bad || eBad q)) := by
  refine q_body Try.func41 rfl (by kernel_rfl) Try.ntmps41 (Nat.le_of_ble_eq_true rfl) ?_
  have t0 := tx_len q.key
  have t1 := tx_len q.en
  repeat (first | (refine q_tn ?_) | (refine q_nil ?_) | (refine q_seq ?_) | (refine q_reg [] ?_) | (refine q_load (by rfl) (by rfl) (by rfl) (by rfl) (upd_same _ _ _) (by rfl) ?_) | (refine q_val (by rfl) (by rfl) (by rfl) (by rfl) ?_) | (refine q_blk ?_) | (refine q_skip ?_) | (refine q_ct (by rfl) ?_) | (refine q_cf (by rfl) ?_) | (refine q_not (by rfl) (by rfl) ?_) | (refine q_bn ?_) | (refine q_be ?_) | (refine q_exit ?_) | (refine q_te ?_) | (refine q_ret ?_) | (refine q_tr ?_) | (refine q_br ?_))
  refine q_w (by rfl) (by rfl) (by rfl) (by rfl) ?_
  refine AO.box (cs := q.av) rfl rfl ?_
  intro c hc _
  obtain ⟨hne, hc⟩ := upd_none hc
  refine q_sig (wr_box hne) ?_
  repeat (first | (refine q_tn ?_) | (refine q_nil ?_) | (refine q_seq ?_) | (refine q_reg [] ?_) | (refine q_load (by rfl) (by rfl) (by rfl) (by rfl) (upd_same _ _ _) (by rfl) ?_) | (refine q_load (by rfl) (by rfl) (by rfl) (by rfl) ((upd_ne _ hne).trans (upd_same _ _ _)) (by rfl) ?_) | (refine q_val (by rfl) (by rfl) (by rfl) (by rfl) ?_) | (refine q_blk ?_) | (refine q_skip ?_) | (refine q_ct (by rfl) ?_) | (refine q_cf (by rfl) ?_) | (refine q_not (by rfl) (by rfl) ?_) | (refine q_bn ?_) | (refine q_be ?_) | (refine q_exit ?_) | (refine q_te ?_) | (refine q_ret ?_) | (refine q_tr ?_) | (refine q_br ?_))
  apply q_wcall (f := 42); exact rfl; exact rfl; exact rfl; exact rfl; exact rfl; exact text_spec ⟨upd σ.vars c q.av, σ.tips⟩ _ _ _ _ hs hF q.key (by (try simp [be_len]); omega); intro h hs hF
  repeat (first | (refine q_tn ?_) | (refine q_nil ?_) | (refine q_seq ?_) | (refine q_reg [] ?_) | (refine q_load (by rfl) (by rfl) (by rfl) (by rfl) (upd_same _ _ _) (by rfl) ?_) | (refine q_load (by rfl) (by rfl) (by rfl) (by rfl) ((upd_ne _ hne).trans (upd_same _ _ _)) (by rfl) ?_) | (refine q_val (by rfl) (by rfl) (by rfl) (by rfl) ?_) | (refine q_blk ?_) | (refine q_skip ?_) | (refine q_ct (by rfl) ?_) | (refine q_cf (by rfl) ?_) | (refine q_not (by rfl) (by rfl) ?_) | (refine q_bn ?_) | (refine q_be ?_) | (refine q_exit ?_) | (refine q_te ?_) | (refine q_ret ?_) | (refine q_tr ?_) | (refine q_br ?_))
  apply q_wcall (f := 42); exact rfl; exact rfl; exact rfl; exact rfl; exact rfl; exact text_spec ⟨upd σ.vars c q.av, σ.tips⟩ _ _ _ _ hs hF q.en (by (try simp [be_len]); omega); intro h hs hF
  repeat (first | (refine q_tn ?_) | (refine q_nil ?_) | (refine q_seq ?_) | (refine q_reg [] ?_) | (refine q_load (by rfl) (by rfl) (by rfl) (by rfl) (upd_same _ _ _) (by rfl) ?_) | (refine q_load (by rfl) (by rfl) (by rfl) (by rfl) ((upd_ne _ hne).trans (upd_same _ _ _)) (by rfl) ?_) | (refine q_val (by rfl) (by rfl) (by rfl) (by rfl) ?_) | (refine q_blk ?_) | (refine q_skip ?_) | (refine q_ct (by rfl) ?_) | (refine q_cf (by rfl) ?_) | (refine q_not (by rfl) (by rfl) ?_) | (refine q_bn ?_) | (refine q_be ?_) | (refine q_exit ?_) | (refine q_te ?_) | (refine q_ret ?_) | (refine q_tr ?_) | (refine q_br ?_))
  apply q_wcall (f := 45); exact rfl; exact rfl; exact rfl; exact rfl; exact rfl; exact flag_spec ⟨upd σ.vars c q.av, σ.tips⟩ _ _ _ _ hs hF q.prev (by (try simp [be_len]); omega); intro h hs hF
  repeat (first | (refine q_tn ?_) | (refine q_nil ?_) | (refine q_seq ?_) | (refine q_reg [] ?_) | (refine q_load (by rfl) (by rfl) (by rfl) (by rfl) (upd_same _ _ _) (by rfl) ?_) | (refine q_val (by rfl) (by rfl) (by rfl) (by rfl) ?_) | (refine q_blk ?_) | (refine q_skip ?_) | (refine q_ct (by rfl) ?_) | (refine q_cf (by rfl) ?_) | (refine q_not (by rfl) (by rfl) ?_) | (refine q_bn ?_) | (refine q_be ?_) | (refine q_exit ?_) | (refine q_te ?_) | (refine q_ret ?_) | (refine q_tr ?_) | (refine q_br ?_))
  exact q_en rfl (AV.le_refl _) (wr_drop hc hne (by simp [eB, n8, fl]) (by simp [eBad, long, byteN, Bool.or_assoc])) ⟨rfl, h, hs, hF, rfl⟩
end
end Go.Ab
