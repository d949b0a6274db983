/- A part of the proof of the seat's rows, said of the kit's own model: the reference's query, write, erase. Conditions: as each theorem says. -/
import Derived.Test.YthhhklmdceieaaaCd9
import Derived.Laws.BytesArg
import Derived.Laws.Strings
namespace Go.Ab
open Go Go.Proofs
set_option linter.unusedVariables false
set_option linter.unusedSimpArgs false
set_option maxRecDepth 100000
def Bytes (l : List Int) : Prop := ∀ n ∈ l, 0 ≤ n ∧ n < 256
theorem bytesI_byts (l : List Int) : bytesI (byts l) = some l := by
  induction l with
  | nil => rfl
  | cons n l ih => rw [byts_cons]; simp [bytesI, ih]
theorem q_str {P : Program} {ow : List Nat} {ops : Array Oper} {K : St → Prop} {l : List Oper} {o : Oper} {s : St} {t u : TypeId} {p : Operand} {v : AV} {x : List Int} (ho : o.op = .convert t u p) (hg : gate ops s o.guard = some true) (hd : dstOk s o.dst = true) (h1 : strT P u = true) (h2 : byteRowT P t = true) (hp : look s p = some v) (hr : v.rows? 1 = some (byts x))
    (h : RV P ow ops K l (s.puto o.dst (.v (.string (mkS x))))) : RV P ow ops K (o :: l) s :=
  q_val (v := .v (.string (mkS x))) hg (by unfold isW'; rw [ho]; rfl) (by rw [ho]; simp only [vop, h1, h2, hp, Option.bind_some, hr, bytesI_byts, Bool.and_self, if_true, Option.map_some]) hd h
theorem mkS_list (l : List Int) : (mkS l).toList = l.map fun n => UInt8.ofNat n.toNat := by
  unfold mkS
  rw [foldl_push_bytes, ByteArray.toList_eq]
  simp
theorem u8_inj {a b : Int} (ha : 0 ≤ a ∧ a < 256) (hb : 0 ≤ b ∧ b < 256) (h : UInt8.ofNat a.toNat = UInt8.ofNat b.toNat) : a = b := by
  have := congrArg UInt8.toNat h
  simp [UInt8.toNat_ofNat'] at this
  omega
theorem map_inj : ∀ {l m : List Int}, Bytes l → Bytes m → (l.map fun n => UInt8.ofNat n.toNat) = (m.map fun n => UInt8.ofNat n.toNat) → l = m
  | [], [], _, _, _ => rfl
  | [], _ :: _, _, _, h => by simp at h
  | _ :: _, [], _, _, h => by simp at h
  | a :: l, b :: m, hl, hm, h => by
    simp only [List.map_cons, List.cons.injEq] at h
    rw [u8_inj (hl a (by simp)) (hm b (by simp)) h.1, map_inj (fun n hn => hl n (by simp [hn])) (fun n hn => hm n (by simp [hn])) h.2]
theorem mkS_eq {l m : List Int} (hl : Bytes l) (hm : Bytes m) : ((mkS l).toList == (mkS m).toList) = (l == m) := by
  rw [mkS_list, mkS_list, Bool.eq_iff_iff]
  simp only [beq_iff_eq]
  exact ⟨fun h => map_inj hl hm h, fun h => by rw [h]⟩
theorem Same_spec (σ : Sg) (l m : List Int) (hl : Bytes l) (hm : Bytes m) : ACalls Try.prog 12 [.row 1 (byts l), .row 1 (byts m)] σ (fun r σ' => r = pb (l == m) ∧ σ' = σ) := by
  refine q_body Try.func12 rfl (by kernel_rfl) Try.ntmps12 (Nat.le_of_ble_eq_true rfl) ?_
  repeat (first | (refine q_tn ?_) | (refine q_nil ?_) | (refine q_seq ?_) | (refine q_reg [] ?_) | (refine q_load (by rfl) (by rfl) (by rfl) (by rfl) (upd_same _ _ _) (by rfl) ?_) | (refine q_val (by rfl) (by rfl) (by rfl) (by rfl) ?_) | (refine q_blk ?_) | (refine q_skip ?_) | (refine q_ct (by rfl) ?_) | (refine q_cf (by rfl) ?_) | (refine q_not (by rfl) (by rfl) ?_) | (refine q_bn ?_) | (refine q_be ?_) | (refine q_exit ?_) | (refine q_te ?_) | (refine q_ret ?_) | (refine q_tr ?_) | (refine q_br ?_))
  refine q_str (x := l) (by rfl) (by rfl) (by rfl) (by kernel_rfl) (by kernel_rfl) (by rfl) (by rfl) ?_
  repeat (first | (refine q_tn ?_) | (refine q_nil ?_) | (refine q_seq ?_) | (refine q_reg [] ?_) | (refine q_load (by rfl) (by rfl) (by rfl) (by rfl) (upd_same _ _ _) (by rfl) ?_) | (refine q_val (by rfl) (by rfl) (by rfl) (by rfl) ?_) | (refine q_blk ?_) | (refine q_skip ?_) | (refine q_ct (by rfl) ?_) | (refine q_cf (by rfl) ?_) | (refine q_not (by rfl) (by rfl) ?_) | (refine q_bn ?_) | (refine q_be ?_) | (refine q_exit ?_) | (refine q_te ?_) | (refine q_ret ?_) | (refine q_tr ?_) | (refine q_br ?_))
  refine q_str (x := m) (by rfl) (by rfl) (by rfl) (by kernel_rfl) (by kernel_rfl) (by rfl) (by rfl) ?_
  repeat (first | (refine q_tn ?_) | (refine q_nil ?_) | (refine q_seq ?_) | (refine q_reg [] ?_) | (refine q_load (by rfl) (by rfl) (by rfl) (by rfl) (upd_same _ _ _) (by rfl) ?_) | (refine q_val (by rfl) (by rfl) (by rfl) (by rfl) ?_) | (refine q_blk ?_) | (refine q_skip ?_) | (refine q_ct (by rfl) ?_) | (refine q_cf (by rfl) ?_) | (refine q_not (by rfl) (by rfl) ?_) | (refine q_bn ?_) | (refine q_be ?_) | (refine q_exit ?_) | (refine q_te ?_) | (refine q_ret ?_) | (refine q_tr ?_) | (refine q_br ?_))
  exact q_er rfl (AV.le_of_eq (congrArg (fun b => pb b) (mkS_eq hl hm))) (SgLe.refl _) ⟨rfl, rfl⟩
def rR (bad : Bool) (l : List Int) : AV := if bad = true then .tup [.row 1 [], pb false] else .tup [.row 1 (byts l), pb true]
theorem rtx_tx {t : List Int} (h : long t = false) : tx t = rtx t := by simp [long] at h; unfold tx rtx; rw [if_neg (by omega)]
theorem rtx_len {t : List Int} (h : long t = false) : (rtx t).length ≤ 65537 := by simp [long] at h; simp [rtx, be_len]; omega
theorem rQuery_spec (σ : Sg) (q : Qry) : ACalls Try.prog 47 [.agg q.av] σ (fun r σ' => r = rR (qBad q) (qB q) ∧ σ' = σ) := by
  refine q_body Try.func47 rfl (by kernel_rfl) Try.ntmps47 (Nat.le_of_ble_eq_true rfl) ?_
  repeat (first | (refine q_tn ?_) | (refine q_nil ?_) | (refine q_seq ?_) | (refine q_reg [] ?_) | (refine q_load (by rfl) (by rfl) (by rfl) (by rfl) (upd_same _ _ _) (by rfl) ?_) | (refine q_val (by rfl) (by rfl) (by rfl) (by rfl) ?_) | (refine q_blk ?_) | (refine q_skip ?_) | (refine q_ct (by rfl) ?_) | (refine q_cf (by rfl) ?_) | (refine q_not (by rfl) (by rfl) ?_) | (refine q_bn ?_) | (refine q_be ?_) | (refine q_exit ?_) | (refine q_te ?_) | (refine q_ret ?_) | (refine q_tr ?_) | (refine q_br ?_))
  refine q_w (by rfl) (by rfl) (by rfl) (by rfl) ?_
  refine AO.box (cs := q.av) rfl rfl ?_
  intro c hc hcx
  clear hcx
  repeat (first | (refine q_tn ?_) | (refine q_nil ?_) | (refine q_seq ?_) | (refine q_reg [] ?_) | (refine q_load (by rfl) (by rfl) (by rfl) (by rfl) (upd_same _ _ _) (by rfl) ?_) | (refine q_val (by rfl) (by rfl) (by rfl) (by rfl) ?_) | (refine q_blk ?_) | (refine q_skip ?_) | (refine q_ct (by rfl) ?_) | (refine q_cf (by rfl) ?_) | (refine q_not (by rfl) (by rfl) ?_) | (refine q_bn ?_) | (refine q_be ?_) | (refine q_exit ?_) | (refine q_te ?_) | (refine q_ret ?_) | (refine q_tr ?_) | (refine q_br ?_))
  refine q_call (f := 21) (by rfl) (by rfl) (by rfl) (by rfl) ((rlong_spec _ [q.key, q.en] (by simp)).mono ?_); rintro _ _ ⟨rfl, rfl⟩
  repeat (first | (refine q_tn ?_) | (refine q_nil ?_) | (refine q_seq ?_) | (refine q_reg [] ?_) | (refine q_load (by rfl) (by rfl) (by rfl) (by rfl) (upd_same _ _ _) (by rfl) ?_) | (refine q_val (by rfl) (by rfl) (by rfl) (by rfl) ?_) | (refine q_blk ?_) | (refine q_skip ?_) | (refine q_ct (by rfl) ?_) | (refine q_cf (by rfl) ?_) | (refine q_not (by rfl) (by rfl) ?_) | (refine q_bn ?_) | (refine q_be ?_) | (refine q_exit ?_) | (refine q_te ?_) | (refine q_ret ?_) | (refine q_tr ?_) | (refine q_br ?_))
  cases hl : [q.key, q.en].any long
  case true =>
    repeat (first | (refine q_tn ?_) | (refine q_nil ?_) | (refine q_seq ?_) | (refine q_reg [] ?_) | (refine q_load (by rfl) (by rfl) (by rfl) (by rfl) (upd_same _ _ _) (by rfl) ?_) | (refine q_val (by rfl) (by rfl) (by rfl) (by rfl) ?_) | (refine q_blk ?_) | (refine q_skip ?_) | (refine q_ct (by rfl) ?_) | (refine q_cf (by rfl) ?_) | (refine q_not (by rfl) (by rfl) ?_) | (refine q_bn ?_) | (refine q_be ?_) | (refine q_exit ?_) | (refine q_te ?_) | (refine q_ret ?_) | (refine q_tr ?_) | (refine q_br ?_))
    exact q_er rfl (tup_le2 (AV.le_nilRow (sz := 1)) (AV.le_refl _)) (SgLe.var hc) ⟨by simp at hl; unfold rR; rw [if_pos (by rcases hl with h | h <;> simp [qBad, h])], rfl⟩
  case false =>
    have l1 : long q.key = false := by simp at hl; exact hl.1
    have l2 : long q.en = false := by simp at hl; exact hl.2
    have n1 := rtx_len l1
    have n2 := rtx_len l2
    have m1 : q.key.length ≤ 65535 := by simp [long] at l1; omega
    have m2 : q.en.length ≤ 65535 := by simp [long] at l2; omega
    repeat (first | (refine q_tn ?_) | (refine q_nil ?_) | (refine q_seq ?_) | (refine q_reg [] ?_) | (refine q_load (by rfl) (by rfl) (by rfl) (by rfl) (upd_same _ _ _) (by rfl) ?_) | (refine q_val (by rfl) (by rfl) (by rfl) (by rfl) ?_) | (refine q_blk ?_) | (refine q_skip ?_) | (refine q_ct (by rfl) ?_) | (refine q_cf (by rfl) ?_) | (refine q_not (by rfl) (by rfl) ?_) | (refine q_bn ?_) | (refine q_be ?_) | (refine q_exit ?_) | (refine q_te ?_) | (refine q_ret ?_) | (refine q_tr ?_) | (refine q_br ?_))
    refine q_call (f := 50) (by rfl) (by rfl) (by rfl) (by rfl) ((rsmall_spec _ q.sort).mono ?_); rintro _ _ ⟨rfl, rfl⟩
    repeat (first | (refine q_tn ?_) | (refine q_nil ?_) | (refine q_seq ?_) | (refine q_reg [] ?_) | (refine q_load (by rfl) (by rfl) (by rfl) (by rfl) (upd_same _ _ _) (by rfl) ?_) | (refine q_val (by rfl) (by rfl) (by rfl) (by rfl) ?_) | (refine q_blk ?_) | (refine q_skip ?_) | (refine q_ct (by rfl) ?_) | (refine q_cf (by rfl) ?_) | (refine q_not (by rfl) (by rfl) ?_) | (refine q_bn ?_) | (refine q_be ?_) | (refine q_exit ?_) | (refine q_te ?_) | (refine q_ret ?_) | (refine q_tr ?_) | (refine q_br ?_))
    cases hb : byteN q.sort
    case true =>
      repeat (first | (refine q_tn ?_) | (refine q_nil ?_) | (refine q_seq ?_) | (refine q_reg [] ?_) | (refine q_load (by rfl) (by rfl) (by rfl) (by rfl) (upd_same _ _ _) (by rfl) ?_) | (refine q_val (by rfl) (by rfl) (by rfl) (by rfl) ?_) | (refine q_blk ?_) | (refine q_skip ?_) | (refine q_ct (by rfl) ?_) | (refine q_cf (by rfl) ?_) | (refine q_not (by rfl) (by rfl) ?_) | (refine q_bn ?_) | (refine q_be ?_) | (refine q_exit ?_) | (refine q_te ?_) | (refine q_ret ?_) | (refine q_tr ?_) | (refine q_br ?_))
      exact q_er rfl (tup_le2 (AV.le_nilRow (sz := 1)) (AV.le_refl _)) (SgLe.var hc) ⟨by unfold rR; rw [if_pos (by simp [qBad, hb])], rfl⟩
    case false =>
      repeat (first | (refine q_tn ?_) | (refine q_nil ?_) | (refine q_seq ?_) | (refine q_reg [] ?_) | (refine q_load (by rfl) (by rfl) (by rfl) (by rfl) (upd_same _ _ _) (by rfl) ?_) | (refine q_val (by rfl) (by rfl) (by rfl) (by rfl) ?_) | (refine q_blk ?_) | (refine q_skip ?_) | (refine q_ct (by rfl) ?_) | (refine q_cf (by rfl) ?_) | (refine q_not (by rfl) (by rfl) ?_) | (refine q_bn ?_) | (refine q_be ?_) | (refine q_exit ?_) | (refine q_te ?_) | (refine q_ret ?_) | (refine q_tr ?_) | (refine q_br ?_))
      refine q_draw [] [0, 1, 3, 4, 6, 7, 9, 10, 12, 13, 14, 15, 16, 17, 19, 20, 22, 23, 25, 26, 28, 29, 31, 32, 34, 35, 2, 5, 8, 11, 18, 21, 24, 27, 30, 33, 36, 37, 38, 39, 40] mixed rfl (by decide +kernel) ?_
      repeat (first | (refine p_nil ?_) | (refine p_load (by rfl) (by rfl) (by rfl) (by rfl) (by rfl) (upd_same _ _ _) (by rfl) ?_) | (refine p_val (by rfl) (by rfl) (by rfl) (by rfl) (by rfl) ?_) | (refine p_not (by rfl) (by rfl) (by rfl) (by rfl) ?_) | (refine p_notW (by rfl) (by rfl) (by rfl) ?_ (by rfl)))
      refine p_call (f := 26) (by rfl) (by rfl) (by rfl) (by rfl) (by rfl) ((rText_spec _ q.key (by omega)).mono ?_); rintro _ _ ⟨rfl, rfl⟩; refine ⟨stay_same, ?_⟩
      repeat (first | (refine p_nil ?_) | (refine p_load (by rfl) (by rfl) (by rfl) (by rfl) (by rfl) (upd_same _ _ _) (by rfl) ?_) | (refine p_val (by rfl) (by rfl) (by rfl) (by rfl) (by rfl) ?_) | (refine p_not (by rfl) (by rfl) (by rfl) (by rfl) ?_) | (refine p_notW (by rfl) (by rfl) (by rfl) ?_ (by rfl)))
      refine p_call (f := 26) (by rfl) (by rfl) (by rfl) (by rfl) (by rfl) ((rText_spec _ q.en (by omega)).mono ?_); rintro _ _ ⟨rfl, rfl⟩; refine ⟨stay_same, ?_⟩
      repeat (first | (refine p_nil ?_) | (refine p_load (by rfl) (by rfl) (by rfl) (by rfl) (by rfl) (upd_same _ _ _) (by rfl) ?_) | (refine p_val (by rfl) (by rfl) (by rfl) (by rfl) (by rfl) ?_) | (refine p_not (by rfl) (by rfl) (by rfl) (by rfl) ?_) | (refine p_notW (by rfl) (by rfl) (by rfl) ?_ (by rfl)))
      refine p_call (f := 24) (by rfl) (by rfl) (by rfl) (by rfl) (by rfl) ((rnum_spec _ q.at_).mono ?_); rintro _ _ ⟨rfl, rfl⟩; refine ⟨stay_same, ?_⟩
      repeat (first | (refine p_nil ?_) | (refine p_load (by rfl) (by rfl) (by rfl) (by rfl) (by rfl) (upd_same _ _ _) (by rfl) ?_) | (refine p_val (by rfl) (by rfl) (by rfl) (by rfl) (by rfl) ?_) | (refine p_not (by rfl) (by rfl) (by rfl) (by rfl) ?_) | (refine p_notW (by rfl) (by rfl) (by rfl) ?_ (by rfl)))
      refine p_call (f := 24) (by rfl) (by rfl) (by rfl) (by rfl) (by rfl) ((rnum_spec _ q.lim).mono ?_); rintro _ _ ⟨rfl, rfl⟩; refine ⟨stay_same, ?_⟩
      repeat (first | (refine p_nil ?_) | (refine p_load (by rfl) (by rfl) (by rfl) (by rfl) (by rfl) (upd_same _ _ _) (by rfl) ?_) | (refine p_val (by rfl) (by rfl) (by rfl) (by rfl) (by rfl) ?_) | (refine p_not (by rfl) (by rfl) (by rfl) (by rfl) ?_) | (refine p_notW (by rfl) (by rfl) (by rfl) ?_ (by rfl)))
      refine p_call (f := 27) (by rfl) (by rfl) (by rfl) (by rfl) (by rfl) ((rflag_spec _ q.desc).mono ?_); rintro _ _ ⟨rfl, rfl⟩; refine ⟨stay_same, ?_⟩
      repeat (first | (refine p_nil ?_) | (refine p_load (by rfl) (by rfl) (by rfl) (by rfl) (by rfl) (upd_same _ _ _) (by rfl) ?_) | (refine p_val (by rfl) (by rfl) (by rfl) (by rfl) (by rfl) ?_) | (refine p_not (by rfl) (by rfl) (by rfl) (by rfl) ?_) | (refine p_notW (by rfl) (by rfl) (by rfl) ?_ (by rfl)))
      refine p_call (f := 27) (by rfl) (by rfl) (by rfl) (by rfl) (by rfl) ((rflag_spec _ q.keys).mono ?_); rintro _ _ ⟨rfl, rfl⟩; refine ⟨stay_same, ?_⟩
      repeat (first | (refine p_nil ?_) | (refine p_load (by rfl) (by rfl) (by rfl) (by rfl) (by rfl) (upd_same _ _ _) (by rfl) ?_) | (refine p_val (by rfl) (by rfl) (by rfl) (by rfl) (by rfl) ?_) | (refine p_not (by rfl) (by rfl) (by rfl) (by rfl) ?_) | (refine p_notW (by rfl) (by rfl) (by rfl) ?_ (by rfl)))
      refine p_call (f := 27) (by rfl) (by rfl) (by rfl) (by rfl) (by rfl) ((rflag_spec _ q.count).mono ?_); rintro _ _ ⟨rfl, rfl⟩; refine ⟨stay_same, ?_⟩
      repeat (first | (refine p_nil ?_) | (refine p_load (by rfl) (by rfl) (by rfl) (by rfl) (by rfl) (upd_same _ _ _) (by rfl) ?_) | (refine p_val (by rfl) (by rfl) (by rfl) (by rfl) (by rfl) ?_) | (refine p_not (by rfl) (by rfl) (by rfl) (by rfl) ?_) | (refine p_notW (by rfl) (by rfl) (by rfl) ?_ (by rfl)))
      refine p_call (f := 24) (by rfl) (by rfl) (by rfl) (by rfl) (by rfl) ((rnum_spec _ q.minM).mono ?_); rintro _ _ ⟨rfl, rfl⟩; refine ⟨stay_same, ?_⟩
      repeat (first | (refine p_nil ?_) | (refine p_load (by rfl) (by rfl) (by rfl) (by rfl) (by rfl) (upd_same _ _ _) (by rfl) ?_) | (refine p_val (by rfl) (by rfl) (by rfl) (by rfl) (by rfl) ?_) | (refine p_not (by rfl) (by rfl) (by rfl) (by rfl) ?_) | (refine p_notW (by rfl) (by rfl) (by rfl) ?_ (by rfl)))
      refine p_call (f := 24) (by rfl) (by rfl) (by rfl) (by rfl) (by rfl) ((rnum_spec _ q.maxM).mono ?_); rintro _ _ ⟨rfl, rfl⟩; refine ⟨stay_same, ?_⟩
      repeat (first | (refine p_nil ?_) | (refine p_load (by rfl) (by rfl) (by rfl) (by rfl) (by rfl) (upd_same _ _ _) (by rfl) ?_) | (refine p_val (by rfl) (by rfl) (by rfl) (by rfl) (by rfl) ?_) | (refine p_not (by rfl) (by rfl) (by rfl) (by rfl) ?_) | (refine p_notW (by rfl) (by rfl) (by rfl) ?_ (by rfl)))
      refine p_call (f := 24) (by rfl) (by rfl) (by rfl) (by rfl) (by rfl) ((rnum_spec _ q.minC).mono ?_); rintro _ _ ⟨rfl, rfl⟩; refine ⟨stay_same, ?_⟩
      repeat (first | (refine p_nil ?_) | (refine p_load (by rfl) (by rfl) (by rfl) (by rfl) (by rfl) (upd_same _ _ _) (by rfl) ?_) | (refine p_val (by rfl) (by rfl) (by rfl) (by rfl) (by rfl) ?_) | (refine p_not (by rfl) (by rfl) (by rfl) (by rfl) ?_) | (refine p_notW (by rfl) (by rfl) (by rfl) ?_ (by rfl)))
      refine p_call (f := 24) (by rfl) (by rfl) (by rfl) (by rfl) (by rfl) ((rnum_spec _ q.maxC).mono ?_); rintro _ _ ⟨rfl, rfl⟩; refine ⟨stay_same, ?_⟩
      repeat (first | (refine p_nil ?_) | (refine p_load (by rfl) (by rfl) (by rfl) (by rfl) (by rfl) (upd_same _ _ _) (by rfl) ?_) | (refine p_val (by rfl) (by rfl) (by rfl) (by rfl) (by rfl) ?_) | (refine p_not (by rfl) (by rfl) (by rfl) (by rfl) ?_) | (refine p_notW (by rfl) (by rfl) (by rfl) ?_ (by rfl)))
      refine p_call (f := 25) (by rfl) (by rfl) (by rfl) (by rfl) (by rfl) ((rjoin_spec _ [rtx q.key, rtx q.en, n8 q.at_, n8 q.lim, [IntKind.u8.wrap q.sort], fl q.desc, fl q.keys, fl q.count, n8 q.minM, n8 q.maxM, n8 q.minC, n8 q.maxC] (by simp [n8_len, fl]; omega) (by simp)).mono ?_); rintro _ _ ⟨rfl, rfl⟩; refine ⟨stay_same, ?_⟩
      repeat (first | (refine p_nil ?_) | (refine p_load (by rfl) (by rfl) (by rfl) (by rfl) (by rfl) (upd_same _ _ _) (by rfl) ?_) | (refine p_val (by rfl) (by rfl) (by rfl) (by rfl) (by rfl) ?_) | (refine p_not (by rfl) (by rfl) (by rfl) (by rfl) ?_) | (refine p_notW (by rfl) (by rfl) (by rfl) ?_ (by rfl)))
      repeat (first | (refine q_tn ?_) | (refine q_nil ?_) | (refine q_seq ?_) | (refine q_reg [] ?_) | (refine q_load (by rfl) (by rfl) (by rfl) (by rfl) (upd_same _ _ _) (by rfl) ?_) | (refine q_val (by rfl) (by rfl) (by rfl) (by rfl) ?_) | (refine q_blk ?_) | (refine q_skip ?_) | (refine q_ct (by rfl) ?_) | (refine q_cf (by rfl) ?_) | (refine q_not (by rfl) (by rfl) ?_) | (refine q_bn ?_) | (refine q_be ?_) | (refine q_exit ?_) | (refine q_te ?_) | (refine q_ret ?_) | (refine q_tr ?_) | (refine q_br ?_))
      exact q_er rfl (AV.le_refl _) (SgLe.var hc) ⟨by unfold rR; rw [if_neg (by simp [qBad, l1, l2, hb])]; simp [resV, qB, rtx_tx l1, rtx_tx l2, wrap8], rfl⟩
theorem rWrite_spec (σ : Sg) (q : Wri) : ACalls Try.prog 48 [.agg q.av] σ (fun r σ' => r = rR (wBad q) (wB q) ∧ σ' = σ) := by
  refine q_body Try.func48 rfl (by kernel_rfl) Try.ntmps48 (Nat.le_of_ble_eq_true rfl) ?_
  repeat (first | (refine q_tn ?_) | (refine q_nil ?_) | (refine q_seq ?_) | (refine q_reg [] ?_) | (refine q_load (by rfl) (by rfl) (by rfl) (by rfl) (upd_same _ _ _) (by rfl) ?_) | (refine q_val (by rfl) (by rfl) (by rfl) (by rfl) ?_) | (refine q_blk ?_) | (refine q_skip ?_) | (refine q_ct (by rfl) ?_) | (refine q_cf (by rfl) ?_) | (refine q_not (by rfl) (by rfl) ?_) | (refine q_bn ?_) | (refine q_be ?_) | (refine q_exit ?_) | (refine q_te ?_) | (refine q_ret ?_) | (refine q_tr ?_) | (refine q_br ?_))
  refine q_w (by rfl) (by rfl) (by rfl) (by rfl) ?_
  refine AO.box (cs := q.av) rfl rfl ?_
  intro c hc hcx
  clear hcx
  repeat (first | (refine q_tn ?_) | (refine q_nil ?_) | (refine q_seq ?_) | (refine q_reg [] ?_) | (refine q_load (by rfl) (by rfl) (by rfl) (by rfl) (upd_same _ _ _) (by rfl) ?_) | (refine q_val (by rfl) (by rfl) (by rfl) (by rfl) ?_) | (refine q_blk ?_) | (refine q_skip ?_) | (refine q_ct (by rfl) ?_) | (refine q_cf (by rfl) ?_) | (refine q_not (by rfl) (by rfl) ?_) | (refine q_bn ?_) | (refine q_be ?_) | (refine q_exit ?_) | (refine q_te ?_) | (refine q_ret ?_) | (refine q_tr ?_) | (refine q_br ?_))
  refine q_call (f := 21) (by rfl) (by rfl) (by rfl) (by rfl) ((rlong_spec _ [q.key, q.val] (by simp)).mono ?_); rintro _ _ ⟨rfl, rfl⟩
  repeat (first | (refine q_tn ?_) | (refine q_nil ?_) | (refine q_seq ?_) | (refine q_reg [] ?_) | (refine q_load (by rfl) (by rfl) (by rfl) (by rfl) (upd_same _ _ _) (by rfl) ?_) | (refine q_val (by rfl) (by rfl) (by rfl) (by rfl) ?_) | (refine q_blk ?_) | (refine q_skip ?_) | (refine q_ct (by rfl) ?_) | (refine q_cf (by rfl) ?_) | (refine q_not (by rfl) (by rfl) ?_) | (refine q_bn ?_) | (refine q_be ?_) | (refine q_exit ?_) | (refine q_te ?_) | (refine q_ret ?_) | (refine q_tr ?_) | (refine q_br ?_))
  cases hl : [q.key, q.val].any long
  case true =>
    repeat (first | (refine q_tn ?_) | (refine q_nil ?_) | (refine q_seq ?_) | (refine q_reg [] ?_) | (refine q_load (by rfl) (by rfl) (by rfl) (by rfl) (upd_same _ _ _) (by rfl) ?_) | (refine q_val (by rfl) (by rfl) (by rfl) (by rfl) ?_) | (refine q_blk ?_) | (refine q_skip ?_) | (refine q_ct (by rfl) ?_) | (refine q_cf (by rfl) ?_) | (refine q_not (by rfl) (by rfl) ?_) | (refine q_bn ?_) | (refine q_be ?_) | (refine q_exit ?_) | (refine q_te ?_) | (refine q_ret ?_) | (refine q_tr ?_) | (refine q_br ?_))
    exact q_er rfl (tup_le2 (AV.le_nilRow (sz := 1)) (AV.le_refl _)) (SgLe.var hc) ⟨by simp at hl; unfold rR; rw [if_pos (by rcases hl with h | h <;> simp [wBad, h])], rfl⟩
  case false =>
    have l1 : long q.key = false := by simp at hl; exact hl.1
    have l2 : long q.val = false := by simp at hl; exact hl.2
    have n1 := rtx_len l1
    have n2 := rtx_len l2
    have m1 : q.key.length ≤ 65535 := by simp [long] at l1; omega
    have m2 : q.val.length ≤ 65535 := by simp [long] at l2; omega
    repeat (first | (refine q_tn ?_) | (refine q_nil ?_) | (refine q_seq ?_) | (refine q_reg [] ?_) | (refine q_load (by rfl) (by rfl) (by rfl) (by rfl) (upd_same _ _ _) (by rfl) ?_) | (refine q_val (by rfl) (by rfl) (by rfl) (by rfl) ?_) | (refine q_blk ?_) | (refine q_skip ?_) | (refine q_ct (by rfl) ?_) | (refine q_cf (by rfl) ?_) | (refine q_not (by rfl) (by rfl) ?_) | (refine q_bn ?_) | (refine q_be ?_) | (refine q_exit ?_) | (refine q_te ?_) | (refine q_ret ?_) | (refine q_tr ?_) | (refine q_br ?_))
    refine q_draw [] [0, 1, 3, 4, 6, 7, 9, 10, 2, 5, 8, 11, 12, 13, 14, 15] mixed rfl (by decide +kernel) ?_
    repeat (first | (refine p_nil ?_) | (refine p_load (by rfl) (by rfl) (by rfl) (by rfl) (by rfl) (upd_same _ _ _) (by rfl) ?_) | (refine p_val (by rfl) (by rfl) (by rfl) (by rfl) (by rfl) ?_) | (refine p_not (by rfl) (by rfl) (by rfl) (by rfl) ?_) | (refine p_notW (by rfl) (by rfl) (by rfl) ?_ (by rfl)))
    refine p_call (f := 26) (by rfl) (by rfl) (by rfl) (by rfl) (by rfl) ((rText_spec _ q.key (by omega)).mono ?_); rintro _ _ ⟨rfl, rfl⟩; refine ⟨stay_same, ?_⟩
    repeat (first | (refine p_nil ?_) | (refine p_load (by rfl) (by rfl) (by rfl) (by rfl) (by rfl) (upd_same _ _ _) (by rfl) ?_) | (refine p_val (by rfl) (by rfl) (by rfl) (by rfl) (by rfl) ?_) | (refine p_not (by rfl) (by rfl) (by rfl) (by rfl) ?_) | (refine p_notW (by rfl) (by rfl) (by rfl) ?_ (by rfl)))
    refine p_call (f := 26) (by rfl) (by rfl) (by rfl) (by rfl) (by rfl) ((rText_spec _ q.val (by omega)).mono ?_); rintro _ _ ⟨rfl, rfl⟩; refine ⟨stay_same, ?_⟩
    repeat (first | (refine p_nil ?_) | (refine p_load (by rfl) (by rfl) (by rfl) (by rfl) (by rfl) (upd_same _ _ _) (by rfl) ?_) | (refine p_val (by rfl) (by rfl) (by rfl) (by rfl) (by rfl) ?_) | (refine p_not (by rfl) (by rfl) (by rfl) (by rfl) ?_) | (refine p_notW (by rfl) (by rfl) (by rfl) ?_ (by rfl)))
    refine p_call (f := 24) (by rfl) (by rfl) (by rfl) (by rfl) (by rfl) ((rnum_spec _ q.lease).mono ?_); rintro _ _ ⟨rfl, rfl⟩; refine ⟨stay_same, ?_⟩
    repeat (first | (refine p_nil ?_) | (refine p_load (by rfl) (by rfl) (by rfl) (by rfl) (by rfl) (upd_same _ _ _) (by rfl) ?_) | (refine p_val (by rfl) (by rfl) (by rfl) (by rfl) (by rfl) ?_) | (refine p_not (by rfl) (by rfl) (by rfl) (by rfl) ?_) | (refine p_notW (by rfl) (by rfl) (by rfl) ?_ (by rfl)))
    refine p_call (f := 27) (by rfl) (by rfl) (by rfl) (by rfl) (by rfl) ((rflag_spec _ q.prev).mono ?_); rintro _ _ ⟨rfl, rfl⟩; refine ⟨stay_same, ?_⟩
    repeat (first | (refine p_nil ?_) | (refine p_load (by rfl) (by rfl) (by rfl) (by rfl) (by rfl) (upd_same _ _ _) (by rfl) ?_) | (refine p_val (by rfl) (by rfl) (by rfl) (by rfl) (by rfl) ?_) | (refine p_not (by rfl) (by rfl) (by rfl) (by rfl) ?_) | (refine p_notW (by rfl) (by rfl) (by rfl) ?_ (by rfl)))
    refine p_call (f := 25) (by rfl) (by rfl) (by rfl) (by rfl) (by rfl) ((rjoin_spec _ [rtx q.key, rtx q.val, n8 q.lease, fl q.prev] (by simp [n8_len, fl]; omega) (by simp)).mono ?_); rintro _ _ ⟨rfl, rfl⟩; refine ⟨stay_same, ?_⟩
    repeat (first | (refine p_nil ?_) | (refine p_load (by rfl) (by rfl) (by rfl) (by rfl) (by rfl) (upd_same _ _ _) (by rfl) ?_) | (refine p_val (by rfl) (by rfl) (by rfl) (by rfl) (by rfl) ?_) | (refine p_not (by rfl) (by rfl) (by rfl) (by rfl) ?_) | (refine p_notW (by rfl) (by rfl) (by rfl) ?_ (by rfl)))
    repeat (first | (refine q_tn ?_) | (refine q_nil ?_) | (refine q_seq ?_) | (refine q_reg [] ?_) | (refine q_load (by rfl) (by rfl) (by rfl) (by rfl) (upd_same _ _ _) (by rfl) ?_) | (refine q_val (by rfl) (by rfl) (by rfl) (by rfl) ?_) | (refine q_blk ?_) | (refine q_skip ?_) | (refine q_ct (by rfl) ?_) | (refine q_cf (by rfl) ?_) | (refine q_not (by rfl) (by rfl) ?_) | (refine q_bn ?_) | (refine q_be ?_) | (refine q_exit ?_) | (refine q_te ?_) | (refine q_ret ?_) | (refine q_tr ?_) | (refine q_br ?_))
    exact q_er rfl (AV.le_refl _) (SgLe.var hc) ⟨by unfold rR; rw [if_neg (by simp [wBad, l1, l2])]; simp [resV, wB, rtx_tx l1, rtx_tx l2, wrap8], rfl⟩
theorem rErase_spec (σ : Sg) (q : Ers) : ACalls Try.prog 49 [.agg q.av] σ (fun r σ' => r = rR (eBad q) (eB q) ∧ σ' = σ) := by
  refine q_body Try.func49 rfl (by kernel_rfl) Try.ntmps49 (Nat.le_of_ble_eq_true rfl) ?_
  repeat (first | (refine q_tn ?_) | (refine q_nil ?_) | (refine q_seq ?_) | (refine q_reg [] ?_) | (refine q_load (by rfl) (by rfl) (by rfl) (by rfl) (upd_same _ _ _) (by rfl) ?_) | (refine q_val (by rfl) (by rfl) (by rfl) (by rfl) ?_) | (refine q_blk ?_) | (refine q_skip ?_) | (refine q_ct (by rfl) ?_) | (refine q_cf (by rfl) ?_) | (refine q_not (by rfl) (by rfl) ?_) | (refine q_bn ?_) | (refine q_be ?_) | (refine q_exit ?_) | (refine q_te ?_) | (refine q_ret ?_) | (refine q_tr ?_) | (refine q_br ?_))
  refine q_w (by rfl) (by rfl) (by rfl) (by rfl) ?_
  refine AO.box (cs := q.av) rfl rfl ?_
  intro c hc hcx
  clear hcx
  repeat (first | (refine q_tn ?_) | (refine q_nil ?_) | (refine q_seq ?_) | (refine q_reg [] ?_) | (refine q_load (by rfl) (by rfl) (by rfl) (by rfl) (upd_same _ _ _) (by rfl) ?_) | (refine q_val (by rfl) (by rfl) (by rfl) (by rfl) ?_) | (refine q_blk ?_) | (refine q_skip ?_) | (refine q_ct (by rfl) ?_) | (refine q_cf (by rfl) ?_) | (refine q_not (by rfl) (by rfl) ?_) | (refine q_bn ?_) | (refine q_be ?_) | (refine q_exit ?_) | (refine q_te ?_) | (refine q_ret ?_) | (refine q_tr ?_) | (refine q_br ?_))
  refine q_call (f := 21) (by rfl) (by rfl) (by rfl) (by rfl) ((rlong_spec _ [q.key, q.en] (by simp)).mono ?_); rintro _ _ ⟨rfl, rfl⟩
  repeat (first | (refine q_tn ?_) | (refine q_nil ?_) | (refine q_seq ?_) | (refine q_reg [] ?_) | (refine q_load (by rfl) (by rfl) (by rfl) (by rfl) (upd_same _ _ _) (by rfl) ?_) | (refine q_val (by rfl) (by rfl) (by rfl) (by rfl) ?_) | (refine q_blk ?_) | (refine q_skip ?_) | (refine q_ct (by rfl) ?_) | (refine q_cf (by rfl) ?_) | (refine q_not (by rfl) (by rfl) ?_) | (refine q_bn ?_) | (refine q_be ?_) | (refine q_exit ?_) | (refine q_te ?_) | (refine q_ret ?_) | (refine q_tr ?_) | (refine q_br ?_))
  cases hl : [q.key, q.en].any long
  case true =>
    repeat (first | (refine q_tn ?_) | (refine q_nil ?_) | (refine q_seq ?_) | (refine q_reg [] ?_) | (refine q_load (by rfl) (by rfl) (by rfl) (by rfl) (upd_same _ _ _) (by rfl) ?_) | (refine q_val (by rfl) (by rfl) (by rfl) (by rfl) ?_) | (refine q_blk ?_) | (refine q_skip ?_) | (refine q_ct (by rfl) ?_) | (refine q_cf (by rfl) ?_) | (refine q_not (by rfl) (by rfl) ?_) | (refine q_bn ?_) | (refine q_be ?_) | (refine q_exit ?_) | (refine q_te ?_) | (refine q_ret ?_) | (refine q_tr ?_) | (refine q_br ?_))
    exact q_er rfl (tup_le2 (AV.le_nilRow (sz := 1)) (AV.le_refl _)) (SgLe.var hc) ⟨by simp at hl; unfold rR; rw [if_pos (by rcases hl with h | h <;> simp [eBad, h])], rfl⟩
  case false =>
    have l1 : long q.key = false := by simp at hl; exact hl.1
    have l2 : long q.en = false := by simp at hl; exact hl.2
    have n1 := rtx_len l1
    have n2 := rtx_len l2
    have m1 : q.key.length ≤ 65535 := by simp [long] at l1; omega
    have m2 : q.en.length ≤ 65535 := by simp [long] at l2; omega
    repeat (first | (refine q_tn ?_) | (refine q_nil ?_) | (refine q_seq ?_) | (refine q_reg [] ?_) | (refine q_load (by rfl) (by rfl) (by rfl) (by rfl) (upd_same _ _ _) (by rfl) ?_) | (refine q_val (by rfl) (by rfl) (by rfl) (by rfl) ?_) | (refine q_blk ?_) | (refine q_skip ?_) | (refine q_ct (by rfl) ?_) | (refine q_cf (by rfl) ?_) | (refine q_not (by rfl) (by rfl) ?_) | (refine q_bn ?_) | (refine q_be ?_) | (refine q_exit ?_) | (refine q_te ?_) | (refine q_ret ?_) | (refine q_tr ?_) | (refine q_br ?_))
    refine q_draw [] [0, 1, 3, 4, 6, 7, 2, 5, 8, 9, 10, 11, 12] mixed rfl (by decide +kernel) ?_
    repeat (first | (refine p_nil ?_) | (refine p_load (by rfl) (by rfl) (by rfl) (by rfl) (by rfl) (upd_same _ _ _) (by rfl) ?_) | (refine p_val (by rfl) (by rfl) (by rfl) (by rfl) (by rfl) ?_) | (refine p_not (by rfl) (by rfl) (by rfl) (by rfl) ?_) | (refine p_notW (by rfl) (by rfl) (by rfl) ?_ (by rfl)))
    refine p_call (f := 26) (by rfl) (by rfl) (by rfl) (by rfl) (by rfl) ((rText_spec _ q.key (by omega)).mono ?_); rintro _ _ ⟨rfl, rfl⟩; refine ⟨stay_same, ?_⟩
    repeat (first | (refine p_nil ?_) | (refine p_load (by rfl) (by rfl) (by rfl) (by rfl) (by rfl) (upd_same _ _ _) (by rfl) ?_) | (refine p_val (by rfl) (by rfl) (by rfl) (by rfl) (by rfl) ?_) | (refine p_not (by rfl) (by rfl) (by rfl) (by rfl) ?_) | (refine p_notW (by rfl) (by rfl) (by rfl) ?_ (by rfl)))
    refine p_call (f := 26) (by rfl) (by rfl) (by rfl) (by rfl) (by rfl) ((rText_spec _ q.en (by omega)).mono ?_); rintro _ _ ⟨rfl, rfl⟩; refine ⟨stay_same, ?_⟩
    repeat (first | (refine p_nil ?_) | (refine p_load (by rfl) (by rfl) (by rfl) (by rfl) (by rfl) (upd_same _ _ _) (by rfl) ?_) | (refine p_val (by rfl) (by rfl) (by rfl) (by rfl) (by rfl) ?_) | (refine p_not (by rfl) (by rfl) (by rfl) (by rfl) ?_) | (refine p_notW (by rfl) (by rfl) (by rfl) ?_ (by rfl)))
    refine p_call (f := 27) (by rfl) (by rfl) (by rfl) (by rfl) (by rfl) ((rflag_spec _ q.prev).mono ?_); rintro _ _ ⟨rfl, rfl⟩; refine ⟨stay_same, ?_⟩
    repeat (first | (refine p_nil ?_) | (refine p_load (by rfl) (by rfl) (by rfl) (by rfl) (by rfl) (upd_same _ _ _) (by rfl) ?_) | (refine p_val (by rfl) (by rfl) (by rfl) (by rfl) (by rfl) ?_) | (refine p_not (by rfl) (by rfl) (by rfl) (by rfl) ?_) | (refine p_notW (by rfl) (by rfl) (by rfl) ?_ (by rfl)))
    refine p_call (f := 25) (by rfl) (by rfl) (by rfl) (by rfl) (by rfl) ((rjoin_spec _ [rtx q.key, rtx q.en, fl q.prev] (by simp [n8_len, fl]; omega) (by simp)).mono ?_); rintro _ _ ⟨rfl, rfl⟩; refine ⟨stay_same, ?_⟩
    repeat (first | (refine p_nil ?_) | (refine p_load (by rfl) (by rfl) (by rfl) (by rfl) (by rfl) (upd_same _ _ _) (by rfl) ?_) | (refine p_val (by rfl) (by rfl) (by rfl) (by rfl) (by rfl) ?_) | (refine p_not (by rfl) (by rfl) (by rfl) (by rfl) ?_) | (refine p_notW (by rfl) (by rfl) (by rfl) ?_ (by rfl)))
    repeat (first | (refine q_tn ?_) | (refine q_nil ?_) | (refine q_seq ?_) | (refine q_reg [] ?_) | (refine q_load (by rfl) (by rfl) (by rfl) (by rfl) (upd_same _ _ _) (by rfl) ?_) | (refine q_val (by rfl) (by rfl) (by rfl) (by rfl) ?_) | (refine q_blk ?_) | (refine q_skip ?_) | (refine q_ct (by rfl) ?_) | (refine q_cf (by rfl) ?_) | (refine q_not (by rfl) (by rfl) ?_) | (refine q_bn ?_) | (refine q_be ?_) | (refine q_exit ?_) | (refine q_te ?_) | (refine q_ret ?_) | (refine q_tr ?_) | (refine q_br ?_))
    exact q_er rfl (AV.le_refl _) (SgLe.var hc) ⟨by unfold rR; rw [if_neg (by simp [eBad, l1, l2])]; simp [resV, eB, rtx_tx l1, rtx_tx l2, wrap8], rfl⟩
end Go.Ab
