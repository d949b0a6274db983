/- A part of the proof of the seat's rows, said of the kit's own model: the reference's operations and transaction. Conditions: as each theorem says. -/
import Derived.Test.YthhhklmdceieaaaCd12
namespace Go.Ab
open Go Go.Proofs
set_option linter.unusedVariables false
set_option linter.unusedSimpArgs false
set_option maxRecDepth 100000
def partOK (k : Int) (q : Qry) (w : Wri) (e : Ers) : Bool := zeroB q w e k && (((k == 1) && !qBad q) || (((k == 2) && !wBad w) || ((k == 3) && !eBad e)))
def partB (k : Int) (q : Qry) (w : Wri) (e : Ers) : List Int := if (k == 1) = true then qB q else if (k == 2) = true then wB w else if (k == 3) = true then eB e else []
theorem partB_len (k : Int) (q : Qry) (w : Wri) (e : Ers) : (partB k q w e).length ≤ 200000 := by
  have := qB_len q; have := wB_len w; have := eB_len e
  unfold partB; split
  · omega
  · split
    · omega
    · split <;> simp <;> omega
theorem tup_le2' {x x' y : AV} (h : x.le x') : (AV.tup [x, y]).le (.tup [x', y]) := tup_le2 h (AV.le_refl _)
theorem part_spec (σ : Sg) (k : Int) (q : Qry) (w : Wri) (e : Ers) : ACalls Try.prog 22 [pi k, .agg q.av, .agg w.av, .agg e.av] σ (fun r σ' => r = rT (!partOK k q w e) (partB k q w e) ∧ σ' = σ) := by
  refine q_body Try.func22 rfl (by kernel_rfl) Try.ntmps22 (Nat.le_of_ble_eq_true rfl) ?_
  repeat (first | (refine q_tn ?_) | (refine q_nil ?_) | (refine q_seq ?_) | (refine q_reg [] ?_) | (refine q_load (by rfl) (by rfl) (by rfl) (by rfl) (upd_same _ _ _) (by rfl) ?_) | (refine q_val (by rfl) (by rfl) (by rfl) (by rfl) ?_) | (refine q_blk ?_) | (refine q_skip ?_) | (refine q_ct (by rfl) ?_) | (refine q_cf (by rfl) ?_) | (refine q_not (by rfl) (by rfl) ?_) | (refine q_bn ?_) | (refine q_be ?_) | (refine q_exit ?_) | (refine q_te ?_) | (refine q_ret ?_) | (refine q_tr ?_) | (refine q_br ?_))
  refine q_w (by rfl) (by rfl) (by rfl) (by rfl) ?_
  refine AO.box (cs := q.av) rfl rfl ?_
  intro c1 hc1 hcx
  clear hcx
  repeat (first | (refine q_tn ?_) | (refine q_nil ?_) | (refine q_seq ?_) | (refine q_reg [] ?_) | (refine q_load (by rfl) (by rfl) (by rfl) (by rfl) (upd_same _ _ _) (by rfl) ?_) | (refine q_val (by rfl) (by rfl) (by rfl) (by rfl) ?_) | (refine q_blk ?_) | (refine q_skip ?_) | (refine q_ct (by rfl) ?_) | (refine q_cf (by rfl) ?_) | (refine q_not (by rfl) (by rfl) ?_) | (refine q_bn ?_) | (refine q_be ?_) | (refine q_exit ?_) | (refine q_te ?_) | (refine q_ret ?_) | (refine q_tr ?_) | (refine q_br ?_))
  refine q_w (by rfl) (by rfl) (by rfl) (by rfl) ?_
  refine AO.box (cs := w.av) rfl rfl ?_
  intro c2 hc2 hcx
  clear hcx
  have g2 := (upd_none hc2).1
  repeat (first | (refine q_tn ?_) | (refine q_nil ?_) | (refine q_seq ?_) | (refine q_reg [] ?_) | (refine q_load (by rfl) (by rfl) (by rfl) (by rfl) (upd_same _ _ _) (by rfl) ?_) | (refine q_val (by rfl) (by rfl) (by rfl) (by rfl) ?_) | (refine q_blk ?_) | (refine q_skip ?_) | (refine q_ct (by rfl) ?_) | (refine q_cf (by rfl) ?_) | (refine q_not (by rfl) (by rfl) ?_) | (refine q_bn ?_) | (refine q_be ?_) | (refine q_exit ?_) | (refine q_te ?_) | (refine q_ret ?_) | (refine q_tr ?_) | (refine q_br ?_))
  refine q_w (by rfl) (by rfl) (by rfl) (by rfl) ?_
  refine AO.box (cs := e.av) rfl rfl ?_
  intro c3 hc3 hcx
  clear hcx
  have g3 := (upd_none hc3).1
  have g4 := (upd_none (upd_none hc3).2).1
  have hout : SgLe ⟨upd (upd (upd σ.vars c1 q.av) c2 w.av) c3 e.av, σ.tips⟩ σ := (SgLe.var hc3).trans ((SgLe.var hc2).trans (SgLe.var hc1))
  clear hc1 hc2 hc3
  repeat (first | (refine q_tn ?_) | (refine q_nil ?_) | (refine q_seq ?_) | (refine q_reg [] ?_) | (refine q_load (by rfl) (by rfl) (by rfl) (by rfl) (upd_same _ _ _) (by rfl) ?_) | (refine q_load (by rfl) (by rfl) (by rfl) (by rfl) (upd3 g2 g4 _ _ _) (by rfl) ?_) | (refine q_load (by rfl) (by rfl) (by rfl) (by rfl) (upd2 g3 _ _) (by rfl) ?_) | (refine q_val (by rfl) (by rfl) (by rfl) (by rfl) ?_) | (refine q_blk ?_) | (refine q_skip ?_) | (refine q_ct (by rfl) ?_) | (refine q_cf (by rfl) ?_) | (refine q_not (by rfl) (by rfl) ?_) | (refine q_bn ?_) | (refine q_be ?_) | (refine q_exit ?_) | (refine q_te ?_) | (refine q_ret ?_) | (refine q_tr ?_) | (refine q_br ?_))
  refine q_call (f := 20) (by rfl) (by rfl) (by rfl) (by rfl) ((zero_spec _ q w e k).mono ?_); rintro _ _ ⟨rfl, rfl⟩
  repeat (first | (refine q_tn ?_) | (refine q_nil ?_) | (refine q_seq ?_) | (refine q_reg [] ?_) | (refine q_load (by rfl) (by rfl) (by rfl) (by rfl) (upd_same _ _ _) (by rfl) ?_) | (refine q_val (by rfl) (by rfl) (by rfl) (by rfl) ?_) | (refine q_blk ?_) | (refine q_skip ?_) | (refine q_ct (by rfl) ?_) | (refine q_cf (by rfl) ?_) | (refine q_not (by rfl) (by rfl) ?_) | (refine q_bn ?_) | (refine q_be ?_) | (refine q_exit ?_) | (refine q_te ?_) | (refine q_ret ?_) | (refine q_tr ?_) | (refine q_br ?_))
  cases hz : zeroB q w e k
  case false =>
    repeat (first | (refine q_tn ?_) | (refine q_nil ?_) | (refine q_seq ?_) | (refine q_reg [] ?_) | (refine q_load (by rfl) (by rfl) (by rfl) (by rfl) (upd_same _ _ _) (by rfl) ?_) | (refine q_val (by rfl) (by rfl) (by rfl) (by rfl) ?_) | (refine q_blk ?_) | (refine q_skip ?_) | (refine q_ct (by rfl) ?_) | (refine q_cf (by rfl) ?_) | (refine q_not (by rfl) (by rfl) ?_) | (refine q_bn ?_) | (refine q_be ?_) | (refine q_exit ?_) | (refine q_te ?_) | (refine q_ret ?_) | (refine q_tr ?_) | (refine q_br ?_))
    exact q_er rfl (tup_le2' (AV.le_nilRow (sz := 1))) hout ⟨by simp [resV, rT, partOK, hz]; rfl, rfl⟩
  case true =>
    repeat (first | (refine q_tn ?_) | (refine q_nil ?_) | (refine q_seq ?_) | (refine q_reg [] ?_) | (refine q_load (by rfl) (by rfl) (by rfl) (by rfl) (upd_same _ _ _) (by rfl) ?_) | (refine q_val (by rfl) (by rfl) (by rfl) (by rfl) ?_) | (refine q_blk ?_) | (refine q_skip ?_) | (refine q_ct (by rfl) ?_) | (refine q_cf (by rfl) ?_) | (refine q_not (by rfl) (by rfl) ?_) | (refine q_bn ?_) | (refine q_be ?_) | (refine q_exit ?_) | (refine q_te ?_) | (refine q_ret ?_) | (refine q_tr ?_) | (refine q_br ?_))
    rcases k4 k with ⟨k1, k2, k3⟩ | ⟨k1, k2, k3⟩ | ⟨k1, k2, k3⟩ | ⟨k1, k2, k3⟩
    · rw [k1]
      repeat (first | (refine q_tn ?_) | (refine q_nil ?_) | (refine q_seq ?_) | (refine q_reg [] ?_) | (refine q_load (by rfl) (by rfl) (by rfl) (by rfl) (upd_same _ _ _) (by rfl) ?_) | (refine q_load (by rfl) (by rfl) (by rfl) (by rfl) (upd3 g2 g4 _ _ _) (by rfl) ?_) | (refine q_load (by rfl) (by rfl) (by rfl) (by rfl) (upd2 g3 _ _) (by rfl) ?_) | (refine q_val (by rfl) (by rfl) (by rfl) (by rfl) ?_) | (refine q_blk ?_) | (refine q_skip ?_) | (refine q_ct (by rfl) ?_) | (refine q_cf (by rfl) ?_) | (refine q_not (by rfl) (by rfl) ?_) | (refine q_bn ?_) | (refine q_be ?_) | (refine q_exit ?_) | (refine q_te ?_) | (refine q_ret ?_) | (refine q_tr ?_) | (refine q_br ?_))
      refine q_call (f := 47) (by rfl) (by rfl) (by rfl) (by rfl) ((rq_spec _ q).mono ?_); rintro _ _ ⟨rfl, rfl⟩
      repeat (first | (refine q_tn ?_) | (refine q_nil ?_) | (refine q_seq ?_) | (refine q_reg [] ?_) | (refine q_load (by rfl) (by rfl) (by rfl) (by rfl) (upd_same _ _ _) (by rfl) ?_) | (refine q_val (by rfl) (by rfl) (by rfl) (by rfl) ?_) | (refine q_blk ?_) | (refine q_skip ?_) | (refine q_ct (by rfl) ?_) | (refine q_cf (by rfl) ?_) | (refine q_not (by rfl) (by rfl) ?_) | (refine q_bn ?_) | (refine q_be ?_) | (refine q_exit ?_) | (refine q_te ?_) | (refine q_ret ?_) | (refine q_tr ?_) | (refine q_br ?_))
      exact q_er rfl (AV.le_refl _) hout ⟨by cases hb : qBad q <;> simp [resV, rT, partOK, partB, hz, k1, k2, k3, hb], rfl⟩
    · rw [k1]
      repeat (first | (refine q_tn ?_) | (refine q_nil ?_) | (refine q_seq ?_) | (refine q_reg [] ?_) | (refine q_load (by rfl) (by rfl) (by rfl) (by rfl) (upd_same _ _ _) (by rfl) ?_) | (refine q_load (by rfl) (by rfl) (by rfl) (by rfl) (upd3 g2 g4 _ _ _) (by rfl) ?_) | (refine q_load (by rfl) (by rfl) (by rfl) (by rfl) (upd2 g3 _ _) (by rfl) ?_) | (refine q_val (by rfl) (by rfl) (by rfl) (by rfl) ?_) | (refine q_blk ?_) | (refine q_skip ?_) | (refine q_ct (by rfl) ?_) | (refine q_cf (by rfl) ?_) | (refine q_not (by rfl) (by rfl) ?_) | (refine q_bn ?_) | (refine q_be ?_) | (refine q_exit ?_) | (refine q_te ?_) | (refine q_ret ?_) | (refine q_tr ?_) | (refine q_br ?_))
      rw [k2]
      repeat (first | (refine q_tn ?_) | (refine q_nil ?_) | (refine q_seq ?_) | (refine q_reg [] ?_) | (refine q_load (by rfl) (by rfl) (by rfl) (by rfl) (upd_same _ _ _) (by rfl) ?_) | (refine q_load (by rfl) (by rfl) (by rfl) (by rfl) (upd3 g2 g4 _ _ _) (by rfl) ?_) | (refine q_load (by rfl) (by rfl) (by rfl) (by rfl) (upd2 g3 _ _) (by rfl) ?_) | (refine q_val (by rfl) (by rfl) (by rfl) (by rfl) ?_) | (refine q_blk ?_) | (refine q_skip ?_) | (refine q_ct (by rfl) ?_) | (refine q_cf (by rfl) ?_) | (refine q_not (by rfl) (by rfl) ?_) | (refine q_bn ?_) | (refine q_be ?_) | (refine q_exit ?_) | (refine q_te ?_) | (refine q_ret ?_) | (refine q_tr ?_) | (refine q_br ?_))
      refine q_call (f := 48) (by rfl) (by rfl) (by rfl) (by rfl) ((rw_spec _ w).mono ?_); rintro _ _ ⟨rfl, rfl⟩
      repeat (first | (refine q_tn ?_) | (refine q_nil ?_) | (refine q_seq ?_) | (refine q_reg [] ?_) | (refine q_load (by rfl) (by rfl) (by rfl) (by rfl) (upd_same _ _ _) (by rfl) ?_) | (refine q_val (by rfl) (by rfl) (by rfl) (by rfl) ?_) | (refine q_blk ?_) | (refine q_skip ?_) | (refine q_ct (by rfl) ?_) | (refine q_cf (by rfl) ?_) | (refine q_not (by rfl) (by rfl) ?_) | (refine q_bn ?_) | (refine q_be ?_) | (refine q_exit ?_) | (refine q_te ?_) | (refine q_ret ?_) | (refine q_tr ?_) | (refine q_br ?_))
      exact q_er rfl (AV.le_refl _) hout ⟨by cases hb : wBad w <;> simp [resV, rT, partOK, partB, hz, k1, k2, k3, hb], rfl⟩
    · rw [k1]
      repeat (first | (refine q_tn ?_) | (refine q_nil ?_) | (refine q_seq ?_) | (refine q_reg [] ?_) | (refine q_load (by rfl) (by rfl) (by rfl) (by rfl) (upd_same _ _ _) (by rfl) ?_) | (refine q_load (by rfl) (by rfl) (by rfl) (by rfl) (upd3 g2 g4 _ _ _) (by rfl) ?_) | (refine q_load (by rfl) (by rfl) (by rfl) (by rfl) (upd2 g3 _ _) (by rfl) ?_) | (refine q_val (by rfl) (by rfl) (by rfl) (by rfl) ?_) | (refine q_blk ?_) | (refine q_skip ?_) | (refine q_ct (by rfl) ?_) | (refine q_cf (by rfl) ?_) | (refine q_not (by rfl) (by rfl) ?_) | (refine q_bn ?_) | (refine q_be ?_) | (refine q_exit ?_) | (refine q_te ?_) | (refine q_ret ?_) | (refine q_tr ?_) | (refine q_br ?_))
      rw [k2]
      repeat (first | (refine q_tn ?_) | (refine q_nil ?_) | (refine q_seq ?_) | (refine q_reg [] ?_) | (refine q_load (by rfl) (by rfl) (by rfl) (by rfl) (upd_same _ _ _) (by rfl) ?_) | (refine q_load (by rfl) (by rfl) (by rfl) (by rfl) (upd3 g2 g4 _ _ _) (by rfl) ?_) | (refine q_load (by rfl) (by rfl) (by rfl) (by rfl) (upd2 g3 _ _) (by rfl) ?_) | (refine q_val (by rfl) (by rfl) (by rfl) (by rfl) ?_) | (refine q_blk ?_) | (refine q_skip ?_) | (refine q_ct (by rfl) ?_) | (refine q_cf (by rfl) ?_) | (refine q_not (by rfl) (by rfl) ?_) | (refine q_bn ?_) | (refine q_be ?_) | (refine q_exit ?_) | (refine q_te ?_) | (refine q_ret ?_) | (refine q_tr ?_) | (refine q_br ?_))
      rw [k3]
      repeat (first | (refine q_tn ?_) | (refine q_nil ?_) | (refine q_seq ?_) | (refine q_reg [] ?_) | (refine q_load (by rfl) (by rfl) (by rfl) (by rfl) (upd_same _ _ _) (by rfl) ?_) | (refine q_load (by rfl) (by rfl) (by rfl) (by rfl) (upd3 g2 g4 _ _ _) (by rfl) ?_) | (refine q_load (by rfl) (by rfl) (by rfl) (by rfl) (upd2 g3 _ _) (by rfl) ?_) | (refine q_val (by rfl) (by rfl) (by rfl) (by rfl) ?_) | (refine q_blk ?_) | (refine q_skip ?_) | (refine q_ct (by rfl) ?_) | (refine q_cf (by rfl) ?_) | (refine q_not (by rfl) (by rfl) ?_) | (refine q_bn ?_) | (refine q_be ?_) | (refine q_exit ?_) | (refine q_te ?_) | (refine q_ret ?_) | (refine q_tr ?_) | (refine q_br ?_))
      refine q_call (f := 49) (by rfl) (by rfl) (by rfl) (by rfl) ((re_spec _ e).mono ?_); rintro _ _ ⟨rfl, rfl⟩
      repeat (first | (refine q_tn ?_) | (refine q_nil ?_) | (refine q_seq ?_) | (refine q_reg [] ?_) | (refine q_load (by rfl) (by rfl) (by rfl) (by rfl) (upd_same _ _ _) (by rfl) ?_) | (refine q_val (by rfl) (by rfl) (by rfl) (by rfl) ?_) | (refine q_blk ?_) | (refine q_skip ?_) | (refine q_ct (by rfl) ?_) | (refine q_cf (by rfl) ?_) | (refine q_not (by rfl) (by rfl) ?_) | (refine q_bn ?_) | (refine q_be ?_) | (refine q_exit ?_) | (refine q_te ?_) | (refine q_ret ?_) | (refine q_tr ?_) | (refine q_br ?_))
      exact q_er rfl (AV.le_refl _) hout ⟨by cases hb : eBad e <;> simp [resV, rT, partOK, partB, hz, k1, k2, k3, hb], rfl⟩
    · rw [k1]
      repeat (first | (refine q_tn ?_) | (refine q_nil ?_) | (refine q_seq ?_) | (refine q_reg [] ?_) | (refine q_load (by rfl) (by rfl) (by rfl) (by rfl) (upd_same _ _ _) (by rfl) ?_) | (refine q_val (by rfl) (by rfl) (by rfl) (by rfl) ?_) | (refine q_blk ?_) | (refine q_skip ?_) | (refine q_ct (by rfl) ?_) | (refine q_cf (by rfl) ?_) | (refine q_not (by rfl) (by rfl) ?_) | (refine q_bn ?_) | (refine q_be ?_) | (refine q_exit ?_) | (refine q_te ?_) | (refine q_ret ?_) | (refine q_tr ?_) | (refine q_br ?_))
      rw [k2]
      repeat (first | (refine q_tn ?_) | (refine q_nil ?_) | (refine q_seq ?_) | (refine q_reg [] ?_) | (refine q_load (by rfl) (by rfl) (by rfl) (by rfl) (upd_same _ _ _) (by rfl) ?_) | (refine q_val (by rfl) (by rfl) (by rfl) (by rfl) ?_) | (refine q_blk ?_) | (refine q_skip ?_) | (refine q_ct (by rfl) ?_) | (refine q_cf (by rfl) ?_) | (refine q_not (by rfl) (by rfl) ?_) | (refine q_bn ?_) | (refine q_be ?_) | (refine q_exit ?_) | (refine q_te ?_) | (refine q_ret ?_) | (refine q_tr ?_) | (refine q_br ?_))
      rw [k3]
      repeat (first | (refine q_tn ?_) | (refine q_nil ?_) | (refine q_seq ?_) | (refine q_reg [] ?_) | (refine q_load (by rfl) (by rfl) (by rfl) (by rfl) (upd_same _ _ _) (by rfl) ?_) | (refine q_val (by rfl) (by rfl) (by rfl) (by rfl) ?_) | (refine q_blk ?_) | (refine q_skip ?_) | (refine q_ct (by rfl) ?_) | (refine q_cf (by rfl) ?_) | (refine q_not (by rfl) (by rfl) ?_) | (refine q_bn ?_) | (refine q_be ?_) | (refine q_exit ?_) | (refine q_te ?_) | (refine q_ret ?_) | (refine q_tr ?_) | (refine q_br ?_))
      exact q_er rfl (tup_le2' (AV.le_nilRow (sz := 1))) hout ⟨by simp [resV, rT, partOK, hz, k1, k2, k3]; rfl, rfl⟩
def Opr.rOK (o : Opr) : Bool := partOK o.kind o.q o.w o.e
def opsOK (L : List Opr) : Bool := !decide ((L.length : Int) > 255) && L.all Opr.rOK
theorem oB_part (o : Opr) : oB o = [o.kind % 256] ++ partB o.kind o.q o.w o.e := rfl
set_option maxHeartbeats 4000000 in
theorem rops_spec (σ : Sg) (L : List Opr) : ACalls Try.prog 51 [.row 20 (L.map Opr.av)] σ (fun r σ' => r = rT (!opsOK L) (osB L) ∧ σ' = σ) := by
  refine q_body Try.func51 rfl (by kernel_rfl) Try.ntmps51 (Nat.le_of_ble_eq_true rfl) ?_
  repeat (first | (refine q_tn ?_) | (refine q_nil ?_) | (refine q_seq ?_) | (refine q_reg [] ?_) | (refine q_load (by rfl) (by rfl) (by rfl) (by rfl) (upd_same _ _ _) (by rfl) ?_) | (refine q_val (by rfl) (by rfl) (by rfl) (by rfl) ?_) | (refine q_blk ?_) | (refine q_skip ?_) | (refine q_ct (by rfl) ?_) | (refine q_cf (by rfl) ?_) | (refine q_not (by rfl) (by rfl) ?_) | (refine q_bn ?_) | (refine q_be ?_) | (refine q_exit ?_) | (refine q_te ?_) | (refine q_ret ?_) | (refine q_tr ?_) | (refine q_br ?_))
  cases e1 : decide (((L.map Opr.av).length : Int) > 255)
  case true =>
    repeat (first | (refine q_tn ?_) | (refine q_nil ?_) | (refine q_seq ?_) | (refine q_reg [] ?_) | (refine q_load (by rfl) (by rfl) (by rfl) (by rfl) (upd_same _ _ _) (by rfl) ?_) | (refine q_val (by rfl) (by rfl) (by rfl) (by rfl) ?_) | (refine q_blk ?_) | (refine q_skip ?_) | (refine q_ct (by rfl) ?_) | (refine q_cf (by rfl) ?_) | (refine q_not (by rfl) (by rfl) ?_) | (refine q_bn ?_) | (refine q_be ?_) | (refine q_exit ?_) | (refine q_te ?_) | (refine q_ret ?_) | (refine q_tr ?_) | (refine q_br ?_))
    exact q_er rfl (tup_le2' (AV.le_nilRow (sz := 1))) (SgLe.refl _) ⟨by simp at e1; simp [resV, rT, opsOK, e1]; rfl, rfl⟩
  have hL : L.length ≤ 255 := by simp at e1; omega
  clear e1
  repeat (first | (refine q_tn ?_) | (refine q_nil ?_) | (refine q_seq ?_) | (refine q_reg [] ?_) | (refine q_load (by rfl) (by rfl) (by rfl) (by rfl) (upd_same _ _ _) (by rfl) ?_) | (refine q_val (by rfl) (by rfl) (by rfl) (by rfl) ?_) | (refine q_blk ?_) | (refine q_skip ?_) | (refine q_ct (by rfl) ?_) | (refine q_cf (by rfl) ?_) | (refine q_not (by rfl) (by rfl) ?_) | (refine q_bn ?_) | (refine q_be ?_) | (refine q_exit ?_) | (refine q_te ?_) | (refine q_ret ?_) | (refine q_tr ?_) | (refine q_br ?_))
  refine q_loop (fun j s => ∃ (i : Nat), i + j = L.length ∧ (L.take i).all Opr.rOK = true ∧ s = ⟨46, frL [(4, .row 1 (byts ([(L.length : Int) % 256] ++ (L.take i).flatMap oB))), (16, .row 20 (L.map Opr.av)), (17, pi L.length), (18, pi i)], σ⟩) (n := L.length)
    (s0 := ⟨46, frL [(4, .row 1 (byts ([(L.length : Int) % 256] ++ (L.take 0).flatMap oB))), (16, .row 20 (L.map Opr.av)), (17, pi L.length), (18, pi (0 : Nat))], σ⟩)
    (Sub.mk' rfl ⟨⟨_, rfl, AV.le_of_eq (show AV.row 1 [[.v (.int .u8 (IntKind.u8.wrap ((L.map Opr.av).length : Int)))]] = _ by simp [byts, wrap8])⟩, ⟨_, rfl, AV.le_refl _⟩, ⟨_, rfl, AV.le_of_eq (by simp)⟩, ⟨_, rfl, AV.le_refl _⟩, trivial⟩ (SgLe.refl _)) ⟨0, by omega, by simp, rfl⟩ ?_
  rintro j s ⟨i, hij, hall, rfl⟩
  repeat (first | (refine q_tn ?_) | (refine q_nil ?_) | (refine q_seq ?_) | (refine q_reg [] ?_) | (refine q_load (by rfl) (by rfl) (by rfl) (by rfl) (upd_same _ _ _) (by rfl) ?_) | (refine q_val (by rfl) (by rfl) (by rfl) (by rfl) ?_) | (refine q_blk ?_) | (refine q_skip ?_) | (refine q_ct (by rfl) ?_) | (refine q_cf (by rfl) ?_) | (refine q_not (by rfl) (by rfl) ?_) | (refine q_bn ?_) | (refine q_be ?_) | (refine q_exit ?_) | (refine q_te ?_) | (refine q_ret ?_) | (refine q_tr ?_) | (refine q_br ?_))
  refine q_if rfl ?_ ?_
  · intro hlt
    have hlt : (i : Int) < L.length := of_decide_eq_true hlt
    have hi : i < L.length := by omega
    have hget : (L.map Opr.av)[i]? = some (L[i]).av := by simp [hi]
    have htk : L.take (i + 1) = L.take i ++ [L[i]] := by rw [List.take_succ_eq_append_getElem hi]
    have hmem : L[i] ∈ L := List.getElem_mem hi
    have hfl := flat_oB (L.take i)
    have hk : (L.take i).length = i := by simp; omega
    generalize L[i] = o at hget htk hmem
    have hpl := partB_len o.kind o.q o.w o.e
    repeat (first | (refine q_tn ?_) | (refine q_nil ?_) | (refine q_seq ?_) | (refine q_reg [] ?_) | (refine q_load (by rfl) (by rfl) (by rfl) (by rfl) (upd_same _ _ _) (by rfl) ?_) | (refine q_val (by rfl) (by rfl) (by rfl) (by rfl) ?_) | (refine q_blk ?_) | (refine q_skip ?_) | (refine q_ct (by rfl) ?_) | (refine q_cf (by rfl) ?_) | (refine q_not (by rfl) (by rfl) ?_) | (refine q_bn ?_) | (refine q_be ?_) | (refine q_exit ?_) | (refine q_te ?_) | (refine q_ret ?_) | (refine q_tr ?_) | (refine q_br ?_))
    refine q_idx2 (by rfl) (by rfl) (by rfl) e30 s59 (by rfl) (by rfl) (by rfl) (by rfl) hget ?_
    repeat (first | (refine q_tn ?_) | (refine q_nil ?_) | (refine q_seq ?_) | (refine q_reg [] ?_) | (refine q_load (by rfl) (by rfl) (by rfl) (by rfl) (upd_same _ _ _) (by rfl) ?_) | (refine q_val (by rfl) (by rfl) (by rfl) (by rfl) ?_) | (refine q_blk ?_) | (refine q_skip ?_) | (refine q_ct (by rfl) ?_) | (refine q_cf (by rfl) ?_) | (refine q_not (by rfl) (by rfl) ?_) | (refine q_bn ?_) | (refine q_be ?_) | (refine q_exit ?_) | (refine q_te ?_) | (refine q_ret ?_) | (refine q_tr ?_) | (refine q_br ?_))
    refine q_w (by rfl) (by rfl) (by rfl) (by rfl) ?_
    refine AO.alloc (t := 59) rfl z59 ?_
    intro c hc _
    refine q_store (by rfl) (by rfl) (by rfl) (by rfl) (by rfl) (by rfl) s59 (by rfl) (upd_same _ _ _) (Nat.le_of_ble_eq_true rfl) ?_
    refine q_sig (σ := ⟨upd σ.vars c o.av, σ.tips⟩) ?_ ?_
    · show (⟨upd (upd σ.vars c z59l) c o.av, σ.tips⟩ : Sg) = _
      rw [upd_upd]
    repeat (first | (refine q_tn ?_) | (refine q_nil ?_) | (refine q_seq ?_) | (refine q_reg [] ?_) | (refine q_load (by rfl) (by rfl) (by rfl) (by rfl) (upd_same _ _ _) (by rfl) ?_) | (refine q_val (by rfl) (by rfl) (by rfl) (by rfl) ?_) | (refine q_blk ?_) | (refine q_skip ?_) | (refine q_ct (by rfl) ?_) | (refine q_cf (by rfl) ?_) | (refine q_not (by rfl) (by rfl) ?_) | (refine q_bn ?_) | (refine q_be ?_) | (refine q_exit ?_) | (refine q_te ?_) | (refine q_ret ?_) | (refine q_tr ?_) | (refine q_br ?_))
    refine q_call (f := 22) (by rfl) (by rfl) (by rfl) (by rfl) ((part_spec _ o.kind o.q o.w o.e).mono ?_); rintro _ _ ⟨rfl, rfl⟩
    repeat (first | (refine q_tn ?_) | (refine q_nil ?_) | (refine q_seq ?_) | (refine q_reg [] ?_) | (refine q_load (by rfl) (by rfl) (by rfl) (by rfl) (upd_same _ _ _) (by rfl) ?_) | (refine q_val (by rfl) (by rfl) (by rfl) (by rfl) ?_) | (refine q_blk ?_) | (refine q_skip ?_) | (refine q_ct (by rfl) ?_) | (refine q_cf (by rfl) ?_) | (refine q_not (by rfl) (by rfl) ?_) | (refine q_bn ?_) | (refine q_be ?_) | (refine q_exit ?_) | (refine q_te ?_) | (refine q_ret ?_) | (refine q_tr ?_) | (refine q_br ?_))
    cases hp : partOK o.kind o.q o.w o.e
    case false =>
      repeat (first | (refine q_tn ?_) | (refine q_nil ?_) | (refine q_seq ?_) | (refine q_reg [] ?_) | (refine q_load (by rfl) (by rfl) (by rfl) (by rfl) (upd_same _ _ _) (by rfl) ?_) | (refine q_val (by rfl) (by rfl) (by rfl) (by rfl) ?_) | (refine q_blk ?_) | (refine q_skip ?_) | (refine q_ct (by rfl) ?_) | (refine q_cf (by rfl) ?_) | (refine q_not (by rfl) (by rfl) ?_) | (refine q_bn ?_) | (refine q_be ?_) | (refine q_exit ?_) | (refine q_te ?_) | (refine q_ret ?_) | (refine q_tr ?_) | (refine q_br ?_))
      refine q_er rfl (tup_le2' (AV.le_nilRow (sz := 1))) (SgLe.var hc) ⟨?_, rfl⟩
      have : L.all Opr.rOK = false := by rw [List.all_eq_false]; exact ⟨o, hmem, by simp [Opr.rOK, hp]⟩
      simp [resV, rT, opsOK, this]; rfl
    case true =>
      repeat (first | (refine q_tn ?_) | (refine q_nil ?_) | (refine q_seq ?_) | (refine q_reg [] ?_) | (refine q_load (by rfl) (by rfl) (by rfl) (by rfl) (upd_same _ _ _) (by rfl) ?_) | (refine q_val (by rfl) (by rfl) (by rfl) (by rfl) ?_) | (refine q_blk ?_) | (refine q_skip ?_) | (refine q_ct (by rfl) ?_) | (refine q_cf (by rfl) ?_) | (refine q_not (by rfl) (by rfl) ?_) | (refine q_bn ?_) | (refine q_be ?_) | (refine q_exit ?_) | (refine q_te ?_) | (refine q_ret ?_) | (refine q_tr ?_) | (refine q_br ?_))
      refine q_call (f := 25) (by rfl) (by rfl) (by rfl) (by rfl) ((rjoin_spec _ [[(L.length : Int) % 256] ++ (L.take i).flatMap oB, [IntKind.u8.wrap o.kind], partB o.kind o.q o.w o.e] (by simp at hfl ⊢; omega) (by simp)).mono ?_); rintro _ _ ⟨rfl, rfl⟩
      repeat (first | (refine q_tn ?_) | (refine q_nil ?_) | (refine q_seq ?_) | (refine q_reg [] ?_) | (refine q_load (by rfl) (by rfl) (by rfl) (by rfl) (upd_same _ _ _) (by rfl) ?_) | (refine q_val (by rfl) (by rfl) (by rfl) (by rfl) ?_) | (refine q_blk ?_) | (refine q_skip ?_) | (refine q_ct (by rfl) ?_) | (refine q_cf (by rfl) ?_) | (refine q_not (by rfl) (by rfl) ?_) | (refine q_bn ?_) | (refine q_be ?_) | (refine q_exit ?_) | (refine q_te ?_) | (refine q_ret ?_) | (refine q_tr ?_) | (refine q_br ?_))
      exact ⟨j - 1, ⟨46, frL [(4, .row 1 (byts ([(L.length : Int) % 256] ++ (L.take (i + 1)).flatMap oB))), (16, .row 20 (L.map Opr.av)), (17, pi L.length), (18, pi (i + 1 : Nat))], σ⟩, by omega,
        Sub.mk' rfl ⟨⟨_, rfl, AV.le_of_eq (by rw [htk]; simp [List.flatMap_append, oB_part, wrap8])⟩, ⟨_, rfl, AV.le_refl _⟩, ⟨_, rfl, AV.le_refl _⟩, ⟨_, rfl, AV.le_of_eq (by rw [wrap_i64 _ (by omega) (by omega)]; rfl)⟩, trivial⟩ (SgLe.var hc), i + 1, by omega, by rw [htk, List.all_append, hall]; simp [Opr.rOK, hp], rfl⟩
  · intro hge
    have hge : ¬ ((i : Int) < L.length) := of_decide_eq_false hge
    obtain rfl : i = L.length := by omega
    rw [List.take_length] at hall ⊢
    repeat (first | (refine q_tn ?_) | (refine q_nil ?_) | (refine q_seq ?_) | (refine q_reg [] ?_) | (refine q_load (by rfl) (by rfl) (by rfl) (by rfl) (upd_same _ _ _) (by rfl) ?_) | (refine q_val (by rfl) (by rfl) (by rfl) (by rfl) ?_) | (refine q_blk ?_) | (refine q_skip ?_) | (refine q_ct (by rfl) ?_) | (refine q_cf (by rfl) ?_) | (refine q_not (by rfl) (by rfl) ?_) | (refine q_bn ?_) | (refine q_be ?_) | (refine q_exit ?_) | (refine q_te ?_) | (refine q_ret ?_) | (refine q_tr ?_) | (refine q_br ?_))
    exact q_er rfl (AV.le_refl _) (SgLe.refl _) ⟨by rw [show opsOK L = true by simp [opsOK, hall]; omega]; rfl, rfl⟩
def Tst.rOK (t : Tst) : Bool := !([t.key, t.val].any long) && (!byteN t.of && !byteN t.way)
def tsOK (L : List Tst) : Bool := !decide ((L.length : Int) > 255) && L.all Tst.rOK
def mul (ifs : List Tst) (thn els : List Opr) : List AV := [.row 5 (ifs.map Tst.av), .row 20 (thn.map Opr.av), .row 20 (els.map Opr.av)]
def txnOK (ifs : List Tst) (thn els : List Opr) : Bool := tsOK ifs && (opsOK thn && opsOK els)
def opsL (L : List Opr) : List Int := bif !opsOK L then [] else osB L
theorem opsL_len (L : List Opr) : (opsL L).length ≤ 60001000 := by
  unfold opsL
  cases h : opsOK L
  · simp
  · have : L.length ≤ 300 := by simp [opsOK] at h; omega
    exact osB_len L this
set_option maxHeartbeats 4000000 in
theorem txn_spec (σ : Sg) (ifs : List Tst) (thn els : List Opr) : ACalls Try.prog 23 [.agg (mul ifs thn els)] σ (fun r σ' => (∃ l : List Int, r = .tup [.row 1 (byts l), pb (txnOK ifs thn els)] ∧ l.length ≤ 500000000 ∧ (txnOK ifs thn els = true → l = tsB ifs ++ (osB thn ++ osB els))) ∧ σ' = σ) := by
  refine q_body Try.func23 rfl (by kernel_rfl) Try.ntmps23 (Nat.le_of_ble_eq_true rfl) ?_
  repeat (first | (refine q_tn ?_) | (refine q_nil ?_) | (refine q_seq ?_) | (refine q_reg [] ?_) | (refine q_load (by rfl) (by rfl) (by rfl) (by rfl) (upd_same _ _ _) (by rfl) ?_) | (refine q_val (by rfl) (by rfl) (by rfl) (by rfl) ?_) | (refine q_blk ?_) | (refine q_skip ?_) | (refine q_ct (by rfl) ?_) | (refine q_cf (by rfl) ?_) | (refine q_not (by rfl) (by rfl) ?_) | (refine q_bn ?_) | (refine q_be ?_) | (refine q_exit ?_) | (refine q_te ?_) | (refine q_ret ?_) | (refine q_tr ?_) | (refine q_br ?_))
  refine q_w (by rfl) (by rfl) (by rfl) (by rfl) ?_
  refine AO.box (cs := mul ifs thn els) rfl rfl ?_
  intro c hc hcx
  clear hcx
  repeat (first | (refine q_tn ?_) | (refine q_nil ?_) | (refine q_seq ?_) | (refine q_reg [] ?_) | (refine q_load (by rfl) (by rfl) (by rfl) (by rfl) (upd_same _ _ _) (by rfl) ?_) | (refine q_val (by rfl) (by rfl) (by rfl) (by rfl) ?_) | (refine q_blk ?_) | (refine q_skip ?_) | (refine q_ct (by rfl) ?_) | (refine q_cf (by rfl) ?_) | (refine q_not (by rfl) (by rfl) ?_) | (refine q_bn ?_) | (refine q_be ?_) | (refine q_exit ?_) | (refine q_te ?_) | (refine q_ret ?_) | (refine q_tr ?_) | (refine q_br ?_))
  cases e1 : decide (((ifs.map Tst.av).length : Int) > 255)
  case true =>
    repeat (first | (refine q_tn ?_) | (refine q_nil ?_) | (refine q_seq ?_) | (refine q_reg [] ?_) | (refine q_load (by rfl) (by rfl) (by rfl) (by rfl) (upd_same _ _ _) (by rfl) ?_) | (refine q_val (by rfl) (by rfl) (by rfl) (by rfl) ?_) | (refine q_blk ?_) | (refine q_skip ?_) | (refine q_ct (by rfl) ?_) | (refine q_cf (by rfl) ?_) | (refine q_not (by rfl) (by rfl) ?_) | (refine q_bn ?_) | (refine q_be ?_) | (refine q_exit ?_) | (refine q_te ?_) | (refine q_ret ?_) | (refine q_tr ?_) | (refine q_br ?_))
    have hf : txnOK ifs thn els = false := by simp at e1; simp [txnOK, tsOK, e1]
    rw [hf]
    exact q_er rfl (tup_le2' (AV.le_nilRow (sz := 1))) (SgLe.var hc) ⟨⟨[], rfl, by simp, fun e => Bool.noConfusion e⟩, rfl⟩
  have hL : ifs.length ≤ 255 := by simp at e1; omega
  clear e1
  repeat (first | (refine q_tn ?_) | (refine q_nil ?_) | (refine q_seq ?_) | (refine q_reg [] ?_) | (refine q_load (by rfl) (by rfl) (by rfl) (by rfl) (upd_same _ _ _) (by rfl) ?_) | (refine q_val (by rfl) (by rfl) (by rfl) (by rfl) ?_) | (refine q_blk ?_) | (refine q_skip ?_) | (refine q_ct (by rfl) ?_) | (refine q_cf (by rfl) ?_) | (refine q_not (by rfl) (by rfl) ?_) | (refine q_bn ?_) | (refine q_be ?_) | (refine q_exit ?_) | (refine q_te ?_) | (refine q_ret ?_) | (refine q_tr ?_) | (refine q_br ?_))
  refine q_loop (fun j s => ∃ (i : Nat), i + j = ifs.length ∧ (ifs.take i).all Tst.rOK = true ∧ s = ⟨86, frL [(1, pt c), (4, .row 1 (byts ([(ifs.length : Int) % 256] ++ (ifs.take i).flatMap tB))), (21, .row 5 (ifs.map Tst.av)), (22, pi ifs.length), (23, pi i)], ⟨upd σ.vars c (mul ifs thn els), σ.tips⟩⟩) (n := ifs.length)
    (s0 := ⟨86, frL [(1, pt c), (4, .row 1 (byts ([(ifs.length : Int) % 256] ++ (ifs.take 0).flatMap tB))), (21, .row 5 (ifs.map Tst.av)), (22, pi ifs.length), (23, pi (0 : Nat))], ⟨upd σ.vars c (mul ifs thn els), σ.tips⟩⟩)
    (Sub.mk' rfl ⟨⟨_, rfl, AV.le_refl _⟩, ⟨_, rfl, AV.le_of_eq (show AV.row 1 [[.v (.int .u8 (IntKind.u8.wrap ((ifs.map Tst.av).length : Int)))]] = _ by simp [byts, wrap8])⟩, ⟨_, rfl, AV.le_refl _⟩, ⟨_, rfl, AV.le_of_eq (by simp)⟩, ⟨_, rfl, AV.le_refl _⟩, trivial⟩ (SgLe.refl _)) ⟨0, by omega, by simp, rfl⟩ ?_
  rintro j s ⟨i, hij, hall, rfl⟩
  repeat (first | (refine q_tn ?_) | (refine q_nil ?_) | (refine q_seq ?_) | (refine q_reg [] ?_) | (refine q_load (by rfl) (by rfl) (by rfl) (by rfl) (upd_same _ _ _) (by rfl) ?_) | (refine q_val (by rfl) (by rfl) (by rfl) (by rfl) ?_) | (refine q_blk ?_) | (refine q_skip ?_) | (refine q_ct (by rfl) ?_) | (refine q_cf (by rfl) ?_) | (refine q_not (by rfl) (by rfl) ?_) | (refine q_bn ?_) | (refine q_be ?_) | (refine q_exit ?_) | (refine q_te ?_) | (refine q_ret ?_) | (refine q_tr ?_) | (refine q_br ?_))
  refine q_if rfl ?_ ?_
  · intro hlt
    have hlt : (i : Int) < ifs.length := of_decide_eq_true hlt
    have hi : i < ifs.length := by omega
    have hget : (ifs.map Tst.av)[i]? = some (ifs[i]).av := by simp [hi]
    have htk : ifs.take (i + 1) = ifs.take i ++ [ifs[i]] := by rw [List.take_succ_eq_append_getElem hi]
    have hmem : ifs[i] ∈ ifs := List.getElem_mem hi
    have hfl := flat_tB (ifs.take i)
    have hk : (ifs.take i).length = i := by simp; omega
    generalize ifs[i] = o at hget htk hmem
    have bad : o.rOK = false → txnOK ifs thn els = false := fun h => by
      have : ifs.all Tst.rOK = false := by rw [List.all_eq_false]; exact ⟨o, hmem, by simp [h]⟩
      simp [txnOK, tsOK, this]
    repeat (first | (refine q_tn ?_) | (refine q_nil ?_) | (refine q_seq ?_) | (refine q_reg [] ?_) | (refine q_load (by rfl) (by rfl) (by rfl) (by rfl) (upd_same _ _ _) (by rfl) ?_) | (refine q_val (by rfl) (by rfl) (by rfl) (by rfl) ?_) | (refine q_blk ?_) | (refine q_skip ?_) | (refine q_ct (by rfl) ?_) | (refine q_cf (by rfl) ?_) | (refine q_not (by rfl) (by rfl) ?_) | (refine q_bn ?_) | (refine q_be ?_) | (refine q_exit ?_) | (refine q_te ?_) | (refine q_ret ?_) | (refine q_tr ?_) | (refine q_br ?_))
    refine q_idx2 (by rfl) (by rfl) (by rfl) e29 s56 (by rfl) (by rfl) (by rfl) (by rfl) hget ?_
    repeat (first | (refine q_tn ?_) | (refine q_nil ?_) | (refine q_seq ?_) | (refine q_reg [] ?_) | (refine q_load (by rfl) (by rfl) (by rfl) (by rfl) (upd_same _ _ _) (by rfl) ?_) | (refine q_val (by rfl) (by rfl) (by rfl) (by rfl) ?_) | (refine q_blk ?_) | (refine q_skip ?_) | (refine q_ct (by rfl) ?_) | (refine q_cf (by rfl) ?_) | (refine q_not (by rfl) (by rfl) ?_) | (refine q_bn ?_) | (refine q_be ?_) | (refine q_exit ?_) | (refine q_te ?_) | (refine q_ret ?_) | (refine q_tr ?_) | (refine q_br ?_))
    refine q_w (by rfl) (by rfl) (by rfl) (by rfl) ?_
    refine AO.alloc (t := 56) rfl z56 ?_
    intro c2 hc2 _
    refine q_store (by rfl) (by rfl) (by rfl) (by rfl) (by rfl) (by rfl) s56 (by rfl) (upd_same _ _ _) (Nat.le_of_ble_eq_true rfl) ?_
    refine q_sig (σ := ⟨upd (upd σ.vars c (mul ifs thn els)) c2 o.av, σ.tips⟩) ?_ ?_
    · show (⟨upd (upd (upd σ.vars c (mul ifs thn els)) c2 z56l) c2 o.av, σ.tips⟩ : Sg) = _
      rw [upd_upd]
    have hout : SgLe ⟨upd (upd σ.vars c (mul ifs thn els)) c2 o.av, σ.tips⟩ σ := (SgLe.var hc2).trans (SgLe.var hc)
    repeat (first | (refine q_tn ?_) | (refine q_nil ?_) | (refine q_seq ?_) | (refine q_reg [] ?_) | (refine q_load (by rfl) (by rfl) (by rfl) (by rfl) (upd_same _ _ _) (by rfl) ?_) | (refine q_val (by rfl) (by rfl) (by rfl) (by rfl) ?_) | (refine q_blk ?_) | (refine q_skip ?_) | (refine q_ct (by rfl) ?_) | (refine q_cf (by rfl) ?_) | (refine q_not (by rfl) (by rfl) ?_) | (refine q_bn ?_) | (refine q_be ?_) | (refine q_exit ?_) | (refine q_te ?_) | (refine q_ret ?_) | (refine q_tr ?_) | (refine q_br ?_))
    refine q_call (f := 21) (by rfl) (by rfl) (by rfl) (by rfl) ((rlong_spec _ [o.key, o.val] (by simp)).mono ?_); rintro _ _ ⟨rfl, rfl⟩
    cases hl : [o.key, o.val].any long
    case true =>
      repeat (first | (refine q_tn ?_) | (refine q_nil ?_) | (refine q_seq ?_) | (refine q_reg [] ?_) | (refine q_load (by rfl) (by rfl) (by rfl) (by rfl) (upd_same _ _ _) (by rfl) ?_) | (refine q_val (by rfl) (by rfl) (by rfl) (by rfl) ?_) | (refine q_blk ?_) | (refine q_skip ?_) | (refine q_ct (by rfl) ?_) | (refine q_cf (by rfl) ?_) | (refine q_not (by rfl) (by rfl) ?_) | (refine q_bn ?_) | (refine q_be ?_) | (refine q_exit ?_) | (refine q_te ?_) | (refine q_ret ?_) | (refine q_tr ?_) | (refine q_br ?_))
      rw [bad (by simp only [Tst.rOK, hl]; rfl)]
      exact q_er rfl (tup_le2' (AV.le_nilRow (sz := 1))) hout ⟨⟨[], rfl, by simp, fun e => Bool.noConfusion e⟩, rfl⟩
    repeat (first | (refine q_tn ?_) | (refine q_nil ?_) | (refine q_seq ?_) | (refine q_reg [] ?_) | (refine q_load (by rfl) (by rfl) (by rfl) (by rfl) (upd_same _ _ _) (by rfl) ?_) | (refine q_val (by rfl) (by rfl) (by rfl) (by rfl) ?_) | (refine q_blk ?_) | (refine q_skip ?_) | (refine q_ct (by rfl) ?_) | (refine q_cf (by rfl) ?_) | (refine q_not (by rfl) (by rfl) ?_) | (refine q_bn ?_) | (refine q_be ?_) | (refine q_exit ?_) | (refine q_te ?_) | (refine q_ret ?_) | (refine q_tr ?_) | (refine q_br ?_))
    refine q_call (f := 50) (by rfl) (by rfl) (by rfl) (by rfl) ((rsmall_spec _ o.of).mono ?_); rintro _ _ ⟨rfl, rfl⟩
    cases hb1 : byteN o.of
    case true =>
      repeat (first | (refine q_tn ?_) | (refine q_nil ?_) | (refine q_seq ?_) | (refine q_reg [] ?_) | (refine q_load (by rfl) (by rfl) (by rfl) (by rfl) (upd_same _ _ _) (by rfl) ?_) | (refine q_val (by rfl) (by rfl) (by rfl) (by rfl) ?_) | (refine q_blk ?_) | (refine q_skip ?_) | (refine q_ct (by rfl) ?_) | (refine q_cf (by rfl) ?_) | (refine q_not (by rfl) (by rfl) ?_) | (refine q_bn ?_) | (refine q_be ?_) | (refine q_exit ?_) | (refine q_te ?_) | (refine q_ret ?_) | (refine q_tr ?_) | (refine q_br ?_))
      rw [bad (by simp only [Tst.rOK, hl, hb1]; rfl)]
      exact q_er rfl (tup_le2' (AV.le_nilRow (sz := 1))) hout ⟨⟨[], rfl, by simp, fun e => Bool.noConfusion e⟩, rfl⟩
    repeat (first | (refine q_tn ?_) | (refine q_nil ?_) | (refine q_seq ?_) | (refine q_reg [] ?_) | (refine q_load (by rfl) (by rfl) (by rfl) (by rfl) (upd_same _ _ _) (by rfl) ?_) | (refine q_val (by rfl) (by rfl) (by rfl) (by rfl) ?_) | (refine q_blk ?_) | (refine q_skip ?_) | (refine q_ct (by rfl) ?_) | (refine q_cf (by rfl) ?_) | (refine q_not (by rfl) (by rfl) ?_) | (refine q_bn ?_) | (refine q_be ?_) | (refine q_exit ?_) | (refine q_te ?_) | (refine q_ret ?_) | (refine q_tr ?_) | (refine q_br ?_))
    refine q_call (f := 50) (by rfl) (by rfl) (by rfl) (by rfl) ((rsmall_spec _ o.way).mono ?_); rintro _ _ ⟨rfl, rfl⟩
    cases hb2 : byteN o.way
    case true =>
      repeat (first | (refine q_tn ?_) | (refine q_nil ?_) | (refine q_seq ?_) | (refine q_reg [] ?_) | (refine q_load (by rfl) (by rfl) (by rfl) (by rfl) (upd_same _ _ _) (by rfl) ?_) | (refine q_val (by rfl) (by rfl) (by rfl) (by rfl) ?_) | (refine q_blk ?_) | (refine q_skip ?_) | (refine q_ct (by rfl) ?_) | (refine q_cf (by rfl) ?_) | (refine q_not (by rfl) (by rfl) ?_) | (refine q_bn ?_) | (refine q_be ?_) | (refine q_exit ?_) | (refine q_te ?_) | (refine q_ret ?_) | (refine q_tr ?_) | (refine q_br ?_))
      rw [bad (by simp only [Tst.rOK, hl, hb1, hb2]; rfl)]
      exact q_er rfl (tup_le2' (AV.le_nilRow (sz := 1))) hout ⟨⟨[], rfl, by simp, fun e => Bool.noConfusion e⟩, rfl⟩
    have l1 : long o.key = false := by simp at hl; exact hl.1
    have l2 : long o.val = false := by simp at hl; exact hl.2
    have n1 := rtx_len l1
    have n2 := rtx_len l2
    have m1 : o.key.length ≤ 65535 := by simp [long] at l1; omega
    have m2 : o.val.length ≤ 65535 := by simp [long] at l2; omega
    repeat (first | (refine q_tn ?_) | (refine q_nil ?_) | (refine q_seq ?_) | (refine q_reg [] ?_) | (refine q_load (by rfl) (by rfl) (by rfl) (by rfl) (upd_same _ _ _) (by rfl) ?_) | (refine q_val (by rfl) (by rfl) (by rfl) (by rfl) ?_) | (refine q_blk ?_) | (refine q_skip ?_) | (refine q_ct (by rfl) ?_) | (refine q_cf (by rfl) ?_) | (refine q_not (by rfl) (by rfl) ?_) | (refine q_bn ?_) | (refine q_be ?_) | (refine q_exit ?_) | (refine q_te ?_) | (refine q_ret ?_) | (refine q_tr ?_) | (refine q_br ?_))
    refine q_draw [] [0, 1, 2, 4, 5, 6, 7, 8, 9, 10, 11, 12, 14, 15, 3, 13, 16, 17, 18, 19] mixed rfl (by decide +kernel) ?_
    repeat (first | (refine p_nil ?_) | (refine p_load (by rfl) (by rfl) (by rfl) (by rfl) (by rfl) (upd_same _ _ _) (by rfl) ?_) | (refine p_val (by rfl) (by rfl) (by rfl) (by rfl) (by rfl) ?_) | (refine p_not (by rfl) (by rfl) (by rfl) (by rfl) ?_) | (refine p_notW (by rfl) (by rfl) (by rfl) ?_ (by rfl)))
    refine p_call (f := 26) (by rfl) (by rfl) (by rfl) (by rfl) (by rfl) ((rText_spec _ o.key (by omega)).mono ?_); rintro _ _ ⟨rfl, rfl⟩; refine ⟨stay_same, ?_⟩
    repeat (first | (refine p_nil ?_) | (refine p_load (by rfl) (by rfl) (by rfl) (by rfl) (by rfl) (upd_same _ _ _) (by rfl) ?_) | (refine p_val (by rfl) (by rfl) (by rfl) (by rfl) (by rfl) ?_) | (refine p_not (by rfl) (by rfl) (by rfl) (by rfl) ?_) | (refine p_notW (by rfl) (by rfl) (by rfl) ?_ (by rfl)))
    refine p_call (f := 24) (by rfl) (by rfl) (by rfl) (by rfl) (by rfl) ((rnum_spec _ o.n).mono ?_); rintro _ _ ⟨rfl, rfl⟩; refine ⟨stay_same, ?_⟩
    repeat (first | (refine p_nil ?_) | (refine p_load (by rfl) (by rfl) (by rfl) (by rfl) (by rfl) (upd_same _ _ _) (by rfl) ?_) | (refine p_val (by rfl) (by rfl) (by rfl) (by rfl) (by rfl) ?_) | (refine p_not (by rfl) (by rfl) (by rfl) (by rfl) ?_) | (refine p_notW (by rfl) (by rfl) (by rfl) ?_ (by rfl)))
    refine p_call (f := 26) (by rfl) (by rfl) (by rfl) (by rfl) (by rfl) ((rText_spec _ o.val (by omega)).mono ?_); rintro _ _ ⟨rfl, rfl⟩; refine ⟨stay_same, ?_⟩
    repeat (first | (refine p_nil ?_) | (refine p_load (by rfl) (by rfl) (by rfl) (by rfl) (by rfl) (upd_same _ _ _) (by rfl) ?_) | (refine p_val (by rfl) (by rfl) (by rfl) (by rfl) (by rfl) ?_) | (refine p_not (by rfl) (by rfl) (by rfl) (by rfl) ?_) | (refine p_notW (by rfl) (by rfl) (by rfl) ?_ (by rfl)))
    refine p_call (f := 25) (by rfl) (by rfl) (by rfl) (by rfl) (by rfl) ((rjoin_spec _ [[(ifs.length : Int) % 256] ++ (ifs.take i).flatMap tB, rtx o.key, [IntKind.u8.wrap o.of, IntKind.u8.wrap o.way], n8 o.n, rtx o.val] (by simp [n8_len] at hfl ⊢; omega) (by simp)).mono ?_); rintro _ _ ⟨rfl, rfl⟩; refine ⟨stay_same, ?_⟩
    repeat (first | (refine p_nil ?_) | (refine p_load (by rfl) (by rfl) (by rfl) (by rfl) (by rfl) (upd_same _ _ _) (by rfl) ?_) | (refine p_val (by rfl) (by rfl) (by rfl) (by rfl) (by rfl) ?_) | (refine p_not (by rfl) (by rfl) (by rfl) (by rfl) ?_) | (refine p_notW (by rfl) (by rfl) (by rfl) ?_ (by rfl)))
    repeat (first | (refine q_tn ?_) | (refine q_nil ?_) | (refine q_seq ?_) | (refine q_reg [] ?_) | (refine q_load (by rfl) (by rfl) (by rfl) (by rfl) (upd_same _ _ _) (by rfl) ?_) | (refine q_val (by rfl) (by rfl) (by rfl) (by rfl) ?_) | (refine q_blk ?_) | (refine q_skip ?_) | (refine q_ct (by rfl) ?_) | (refine q_cf (by rfl) ?_) | (refine q_not (by rfl) (by rfl) ?_) | (refine q_bn ?_) | (refine q_be ?_) | (refine q_exit ?_) | (refine q_te ?_) | (refine q_ret ?_) | (refine q_tr ?_) | (refine q_br ?_))
    exact ⟨j - 1, ⟨86, frL [(1, pt c), (4, .row 1 (byts ([(ifs.length : Int) % 256] ++ (ifs.take (i + 1)).flatMap tB))), (21, .row 5 (ifs.map Tst.av)), (22, pi ifs.length), (23, pi (i + 1 : Nat))], ⟨upd σ.vars c (mul ifs thn els), σ.tips⟩⟩, by omega,
      Sub.mk' rfl ⟨⟨_, rfl, AV.le_refl _⟩, ⟨_, rfl, AV.le_of_eq (by rw [htk]; simp [List.flatMap_append, tB, wrap8, rtx_tx l1, rtx_tx l2])⟩, ⟨_, rfl, AV.le_refl _⟩, ⟨_, rfl, AV.le_refl _⟩, ⟨_, rfl, AV.le_of_eq (by rw [wrap_i64 _ (by omega) (by omega)]; rfl)⟩, trivial⟩ (SgLe.var hc2), i + 1, by omega, by rw [htk, List.all_append, hall]; simp [Tst.rOK, hb1, hb2, l1, l2], rfl⟩
  · intro hge
    have hge : ¬ ((i : Int) < ifs.length) := of_decide_eq_false hge
    obtain rfl : i = ifs.length := by omega
    rw [List.take_length] at hall ⊢
    have x0 := tsB_len ifs (by omega)
    have x1 := opsL_len thn
    have x2 := opsL_len els
    have hts : tsOK ifs = true := by simp [tsOK, hall]; omega
    repeat (first | (refine q_tn ?_) | (refine q_nil ?_) | (refine q_seq ?_) | (refine q_reg [] ?_) | (refine q_load (by rfl) (by rfl) (by rfl) (by rfl) (upd_same _ _ _) (by rfl) ?_) | (refine q_val (by rfl) (by rfl) (by rfl) (by rfl) ?_) | (refine q_blk ?_) | (refine q_skip ?_) | (refine q_ct (by rfl) ?_) | (refine q_cf (by rfl) ?_) | (refine q_not (by rfl) (by rfl) ?_) | (refine q_bn ?_) | (refine q_be ?_) | (refine q_exit ?_) | (refine q_te ?_) | (refine q_ret ?_) | (refine q_tr ?_) | (refine q_br ?_))
    refine q_call (f := 51) (by rfl) (by rfl) (by rfl) (by rfl) ((rops_spec _ thn).mono ?_); rintro _ _ ⟨rfl, rfl⟩
    repeat (first | (refine q_tn ?_) | (refine q_nil ?_) | (refine q_seq ?_) | (refine q_reg [] ?_) | (refine q_load (by rfl) (by rfl) (by rfl) (by rfl) (upd_same _ _ _) (by rfl) ?_) | (refine q_val (by rfl) (by rfl) (by rfl) (by rfl) ?_) | (refine q_blk ?_) | (refine q_skip ?_) | (refine q_ct (by rfl) ?_) | (refine q_cf (by rfl) ?_) | (refine q_not (by rfl) (by rfl) ?_) | (refine q_bn ?_) | (refine q_be ?_) | (refine q_exit ?_) | (refine q_te ?_) | (refine q_ret ?_) | (refine q_tr ?_) | (refine q_br ?_))
    refine q_call (f := 51) (by rfl) (by rfl) (by rfl) (by rfl) ((rops_spec _ els).mono ?_); rintro _ _ ⟨rfl, rfl⟩
    repeat (first | (refine q_tn ?_) | (refine q_nil ?_) | (refine q_seq ?_) | (refine q_reg [] ?_) | (refine q_load (by rfl) (by rfl) (by rfl) (by rfl) (upd_same _ _ _) (by rfl) ?_) | (refine q_val (by rfl) (by rfl) (by rfl) (by rfl) ?_) | (refine q_blk ?_) | (refine q_skip ?_) | (refine q_ct (by rfl) ?_) | (refine q_cf (by rfl) ?_) | (refine q_not (by rfl) (by rfl) ?_) | (refine q_bn ?_) | (refine q_be ?_) | (refine q_exit ?_) | (refine q_te ?_) | (refine q_ret ?_) | (refine q_tr ?_) | (refine q_br ?_))
    refine q_call (f := 25) (by rfl) (by rfl) (by rfl) (by rfl) ((rjoin_spec _ [tsB ifs, opsL thn, opsL els] (by simp; omega) (by simp)).mono ?_); rintro _ _ ⟨rfl, rfl⟩
    repeat (first | (refine q_tn ?_) | (refine q_nil ?_) | (refine q_seq ?_) | (refine q_reg [] ?_) | (refine q_load (by rfl) (by rfl) (by rfl) (by rfl) (upd_same _ _ _) (by rfl) ?_) | (refine q_val (by rfl) (by rfl) (by rfl) (by rfl) ?_) | (refine q_blk ?_) | (refine q_skip ?_) | (refine q_ct (by rfl) ?_) | (refine q_cf (by rfl) ?_) | (refine q_not (by rfl) (by rfl) ?_) | (refine q_bn ?_) | (refine q_be ?_) | (refine q_exit ?_) | (refine q_te ?_) | (refine q_ret ?_) | (refine q_tr ?_) | (refine q_br ?_))
    cases h1 : opsOK thn
    case false =>
      repeat (first | (refine q_tn ?_) | (refine q_nil ?_) | (refine q_seq ?_) | (refine q_reg [] ?_) | (refine q_load (by rfl) (by rfl) (by rfl) (by rfl) (upd_same _ _ _) (by rfl) ?_) | (refine q_val (by rfl) (by rfl) (by rfl) (by rfl) ?_) | (refine q_blk ?_) | (refine q_skip ?_) | (refine q_ct (by rfl) ?_) | (refine q_cf (by rfl) ?_) | (refine q_not (by rfl) (by rfl) ?_) | (refine q_bn ?_) | (refine q_be ?_) | (refine q_exit ?_) | (refine q_te ?_) | (refine q_ret ?_) | (refine q_tr ?_) | (refine q_br ?_))
      exact q_er rfl (AV.le_refl _) (SgLe.var hc) ⟨⟨_, by simp [resV, txnOK, h1, rT]; rfl, by simp; omega, fun e => by simp [txnOK, h1] at e⟩, rfl⟩
    case true =>
      repeat (first | (refine q_tn ?_) | (refine q_nil ?_) | (refine q_seq ?_) | (refine q_reg [] ?_) | (refine q_load (by rfl) (by rfl) (by rfl) (by rfl) (upd_same _ _ _) (by rfl) ?_) | (refine q_val (by rfl) (by rfl) (by rfl) (by rfl) ?_) | (refine q_blk ?_) | (refine q_skip ?_) | (refine q_ct (by rfl) ?_) | (refine q_cf (by rfl) ?_) | (refine q_not (by rfl) (by rfl) ?_) | (refine q_bn ?_) | (refine q_be ?_) | (refine q_exit ?_) | (refine q_te ?_) | (refine q_ret ?_) | (refine q_tr ?_) | (refine q_br ?_))
      exact q_er rfl (AV.le_refl _) (SgLe.var hc) ⟨⟨[tsB ifs, opsL thn, opsL els].flatten, by simp [resV, txnOK, h1, hts], by simp; omega, fun e => by simp [txnOK, h1, hts] at e; simp [opsL, h1, e]⟩, rfl⟩
end Go.Ab
