/- A part of the proof of the seat's rows, said of the kit's own model: the codec's test is the reference's. Conditions: as each theorem says. -/
import Derived.Test.YthhhklmdceieaaaCd15
namespace Go.Ab
open Go Go.Proofs Go.RowKit
set_option linter.unusedVariables false
set_option linter.unusedSimpArgs false
set_option maxRecDepth 100000
theorem okI.range {n : Int} (h : okI n) : -9223372036854775808 ≤ n ∧ n ≤ 9223372036854775807 := by
  unfold okI Lit.wf at h
  simp [IntKind.min, IntKind.max, IntKind.bits, IntKind.signed] at h
  omega
theorem okT.len {l : List Int} (h : okT l) : l.length ≤ 140737488351232 := by have := h.2.1; omega
theorem u64_inj {n m : Int} (h : okI n) (k : okI m) (e : u64 n = u64 m) : n = m := by
  have := h.range; have := k.range
  unfold u64 IntKind.wrap at e; simp [IntKind.bits, IntKind.signed] at e; omega
theorem be_inj : ∀ (k : Nat) (x y : Int), 0 ≤ x → 0 ≤ y → x < 256 ^ k → y < 256 ^ k → be x k = be y k → x = y
  | 0, x, y, h1, h2, h3, h4, _ => by simp at h3 h4; omega
  | k + 1, x, y, h1, h2, h3, h4, e => by
    have aux : ∀ (k : Nat) (x : Int), be (x % 256 ^ k) k = be x k := fun k => by
      suffices ∀ (j : Nat) (x : Int), j ≤ k → be (x % 256 ^ k) j = be x j from fun x => this k x (Nat.le_refl _)
      intro j
      induction j with
      | zero => intros; rfl
      | succ j ih =>
        intro x hj
        simp only [be]
        rw [ih x (by omega)]
        congr 1
        obtain ⟨d, rfl⟩ : ∃ d, k = j + 1 + d := ⟨k - (j + 1), by omega⟩
        have hp : (0 : Int) < 256 ^ j := Int.pow_pos (by omega)
        have e1 : (256 : Int) ^ (j + 1 + d) = 256 ^ j * (256 * 256 ^ d) := by rw [show j + 1 + d = j + (1 + d) by omega, Int.pow_add, Int.pow_add]; rfl
        rw [e1]
        have e2 := Int.mul_ediv_add_emod x (256 ^ j * (256 * 256 ^ d))
        generalize x % (256 ^ j * (256 * 256 ^ d)) = r at e2 ⊢
        generalize x / (256 ^ j * (256 * 256 ^ d)) = q at e2
        rw [← e2, show (256 : Int) ^ j * (256 * 256 ^ d) * q + r = r + 256 ^ j * (256 * (256 ^ d * q)) by rw [Int.mul_assoc, Int.mul_assoc, Int.add_comm], Int.add_mul_ediv_left _ _ (by omega), Int.add_mul_emod_self_left]
    simp only [be, List.cons.injEq] at e
    have hp : (0 : Int) < 256 ^ k := Int.pow_pos (by omega)
    have a1 : x / 256 ^ k < 256 := Int.ediv_lt_of_lt_mul hp (by rw [Int.pow_succ] at h3; omega)
    have a2 : y / 256 ^ k < 256 := Int.ediv_lt_of_lt_mul hp (by rw [Int.pow_succ] at h4; omega)
    have a3 : 0 ≤ x / 256 ^ k := Int.ediv_nonneg h1 (by omega)
    have a4 : 0 ≤ y / 256 ^ k := Int.ediv_nonneg h2 (by omega)
    have b1 : x / 256 ^ k = y / 256 ^ k := by have := e.1; omega
    have b2 := be_inj k (x % 256 ^ k) (y % 256 ^ k) (Int.emod_nonneg _ (by omega)) (Int.emod_nonneg _ (by omega)) (Int.emod_lt_of_pos _ hp) (Int.emod_lt_of_pos _ hp) (by rw [aux, aux]; exact e.2)
    rw [← Int.mul_ediv_add_emod x (256 ^ k), ← Int.mul_ediv_add_emod y (256 ^ k), b1, b2]
theorem n8_inj {n m : Int} (h : okI n) (k : okI m) (e : n8 n = n8 m) : n = m :=
  u64_inj h k (be_inj 8 _ _ (u64_range n).1 (u64_range m).1 (by have := (u64_range n).2; omega) (by have := (u64_range m).2; omega) e)
theorem bytes_be (n : Int) (k : Nat) : Bytes (be n k) := by
  induction k with
  | zero => intro x hx; cases hx
  | succ k ih =>
    intro x hx
    simp only [be, List.mem_cons] at hx
    rcases hx with rfl | hx
    · omega
    · exact ih x hx
theorem Bytes.app {l m : List Int} (h : Bytes l) (k : Bytes m) : Bytes (l ++ m) := fun x hx => by
  rcases List.mem_append.1 hx with a | a
  · exact h x a
  · exact k x a
theorem bytes_fl (b : Bool) : Bytes (fl b) := by intro x hx; cases b <;> simp [fl] at hx <;> omega
theorem bytes_one (n : Int) : Bytes [n % 256] := by intro x hx; simp at hx; omega
theorem sB_len {l m : List Int} (h : sB l m = true) : l.length = m.length := by
  unfold sB at h; rw [mkS_list, mkS_list] at h
  have := congrArg List.length (eq_of_beq h)
  simpa using this
theorem sB_eq {l m : List Int} (hl : Bytes l) (hm : Bytes m) (h : sB l m = true) : l = m := by
  unfold sB at h; rw [mkS_eq hl hm] at h; exact eq_of_beq h
theorem sB_refl (l : List Int) : sB l l = true := by unfold sB; simp
theorem tx_short {t : List Int} (h : long t = false) : (tx t).length = 2 + t.length := by
  simp [long] at h; unfold tx; rw [if_neg (by omega)]; simp [be_len]
theorem okI0 : okI 0 := by unfold okI; decide
theorem emp_nil {a b : List Int} (ha : okT a) (hb : okT b) (h : emp a b = true) : a = [] ∧ b = [] := by
  have := ha.len; have := hb.len
  unfold emp at h; rw [wrap_i64 _ (by omega) (by omega)] at h
  simp at h
  exact ⟨List.eq_nil_of_length_eq_zero (by omega), List.eq_nil_of_length_eq_zero (by omega)⟩
theorem fl_inj {a b : Bool} (h : fl a = fl b) : a = b := by cases a <;> cases b <;> simp [fl] at h <;> rfl
theorem noQ_eq {q : Qry} (g : q.good) : (!qBad q && sB (qB q) (qB q0)) = noQ q := by
  rw [Bool.eq_iff_iff]
  simp only [Bool.and_eq_true, Bool.not_eq_true']
  constructor
  · rintro ⟨hb, hs⟩
    simp only [qBad, Bool.or_eq_false_iff] at hb
    have hn := sB_len hs
    have t0 : (tx ([] : List Int)).length = 2 := by decide
    simp only [qB, q0, List.length_append, n8_len, fl, List.length_cons, List.length_nil, tx_short hb.1, tx_short hb.2.1, t0] at hn
    obtain ⟨key, en, at_, lim, sort, desc, keys, count, minM, maxM, minC, maxC⟩ := q
    dsimp only at *
    obtain rfl : key = [] := List.eq_nil_of_length_eq_zero (by omega)
    obtain rfl : en = [] := List.eq_nil_of_length_eq_zero (by omega)
    have B : ∀ q : Qry, q.key = [] → q.en = [] → Bytes (qB q) := fun q h1 h2 => by
      unfold qB
      rw [h1, h2]
      have t1 : Bytes (tx []) := bytes_be 0 2
      exact t1.app (t1.app ((bytes_be _ 8).app ((bytes_be _ 8).app ((bytes_one _).app ((bytes_fl _).app ((bytes_fl _).app ((bytes_fl _).app ((bytes_be _ 8).app ((bytes_be _ 8).app ((bytes_be _ 8).app (bytes_be _ 8)))))))))))
    have e := sB_eq (B _ rfl rfl) (B _ rfl rfl) hs
    simp only [qB, q0] at e
    have e := List.append_cancel_left (List.append_cancel_left e)
    obtain ⟨x0, e⟩ := List.append_inj e (by simp [n8_len])
    obtain ⟨x1, e⟩ := List.append_inj e (by simp [n8_len])
    obtain ⟨x2, e⟩ := List.append_inj e (by simp)
    obtain ⟨x3, e⟩ := List.append_inj e (by simp [fl])
    obtain ⟨x4, e⟩ := List.append_inj e (by simp [fl])
    obtain ⟨x5, e⟩ := List.append_inj e (by simp [fl])
    obtain ⟨x6, e⟩ := List.append_inj e (by simp [n8_len])
    obtain ⟨x7, e⟩ := List.append_inj e (by simp [n8_len])
    obtain ⟨x8, x9⟩ := List.append_inj e (by simp [n8_len])
    have hb2 := hb.2.2
    simp [byteN] at hb2
    simp at x2
    obtain rfl := n8_inj g.k2 okI0 x0
    obtain rfl := n8_inj g.k3 okI0 x1
    obtain rfl : sort = 0 := by omega
    obtain rfl := fl_inj x3
    obtain rfl := fl_inj x4
    obtain rfl := fl_inj x5
    obtain rfl := n8_inj g.k8 okI0 x6
    obtain rfl := n8_inj g.k9 okI0 x7
    obtain rfl := n8_inj g.k10 okI0 x8
    obtain rfl := n8_inj g.k11 okI0 x9
    decide
  · intro h
    obtain ⟨key, en, at_, lim, sort, desc, keys, count, minM, maxM, minC, maxC⟩ := q
    simp only [noQ, Bool.and_eq_true, Bool.not_eq_true', beq_iff_eq] at h
    obtain ⟨⟨⟨⟨⟨⟨⟨⟨⟨⟨he, rfl⟩, rfl⟩, rfl⟩, rfl⟩, rfl⟩, rfl⟩, rfl⟩, rfl⟩, rfl⟩, rfl⟩ := h
    obtain ⟨h1, h2⟩ := emp_nil g.k0 g.k1 he
    dsimp only at h1 h2
    subst h1; subst h2
    exact ⟨by decide, sB_refl _⟩
theorem noW_eq {q : Wri} (g : q.good) : (!wBad q && sB (wB q) (wB w0)) = noW q := by
  rw [Bool.eq_iff_iff]
  simp only [Bool.and_eq_true, Bool.not_eq_true']
  constructor
  · rintro ⟨hb, hs⟩
    simp only [wBad, Bool.or_eq_false_iff] at hb
    have hn := sB_len hs
    have t0 : (tx ([] : List Int)).length = 2 := by decide
    simp only [wB, w0, List.length_append, n8_len, fl, List.length_cons, List.length_nil, tx_short hb.1, tx_short hb.2, t0] at hn
    obtain ⟨key, en, lease, prev⟩ := q
    dsimp only at *
    obtain rfl : key = [] := List.eq_nil_of_length_eq_zero (by omega)
    obtain rfl : en = [] := List.eq_nil_of_length_eq_zero (by omega)
    have B : ∀ q : Wri, q.key = [] → q.val = [] → Bytes (wB q) := fun q h1 h2 => by
      unfold wB
      rw [h1, h2]
      have t1 : Bytes (tx []) := bytes_be 0 2
      exact t1.app (t1.app ((bytes_be _ 8).app (bytes_fl _)))
    have e := sB_eq (B _ rfl rfl) (B _ rfl rfl) hs
    simp only [wB, w0] at e
    have e := List.append_cancel_left (List.append_cancel_left e)
    obtain ⟨x0, x1⟩ := List.append_inj e (by simp [n8_len])
    obtain rfl := n8_inj g.k2 okI0 x0
    obtain rfl := fl_inj x1
    decide
  · intro h
    obtain ⟨key, en, lease, prev⟩ := q
    simp only [noW, Bool.and_eq_true, Bool.not_eq_true', beq_iff_eq] at h
    obtain ⟨⟨he, rfl⟩, rfl⟩ := h
    obtain ⟨h1, h2⟩ := emp_nil g.k0 g.k1 he
    dsimp only at h1 h2
    subst h1; subst h2
    exact ⟨by decide, sB_refl _⟩
theorem noE_eq {q : Ers} (g : q.good) : (!eBad q && sB (eB q) (eB e0)) = noE q := by
  rw [Bool.eq_iff_iff]
  simp only [Bool.and_eq_true, Bool.not_eq_true']
  constructor
  · rintro ⟨hb, hs⟩
    simp only [eBad, Bool.or_eq_false_iff] at hb
    have hn := sB_len hs
    have t0 : (tx ([] : List Int)).length = 2 := by decide
    simp only [eB, e0, List.length_append, fl, List.length_cons, List.length_nil, tx_short hb.1, tx_short hb.2, t0] at hn
    obtain ⟨key, en, prev⟩ := q
    dsimp only at *
    obtain rfl : key = [] := List.eq_nil_of_length_eq_zero (by omega)
    obtain rfl : en = [] := List.eq_nil_of_length_eq_zero (by omega)
    have B : ∀ q : Ers, q.key = [] → q.en = [] → Bytes (eB q) := fun q h1 h2 => by
      unfold eB
      rw [h1, h2]
      have t1 : Bytes (tx []) := bytes_be 0 2
      exact t1.app (t1.app (bytes_fl _))
    have e := sB_eq (B _ rfl rfl) (B _ rfl rfl) hs
    simp only [eB, e0] at e
    obtain rfl := fl_inj (List.append_cancel_left (List.append_cancel_left e))
    decide
  · intro h
    obtain ⟨key, en, prev⟩ := q
    simp only [noE, Bool.and_eq_true, Bool.not_eq_true', beq_iff_eq] at h
    obtain ⟨he, rfl⟩ := h
    obtain ⟨h1, h2⟩ := emp_nil g.k0 g.k1 he
    dsimp only at h1 h2
    subst h1; subst h2
    exact ⟨by decide, sB_refl _⟩
theorem zero_eq {q : Qry} {w : Wri} {e : Ers} (k : Int) (hq : q.good) (hw : w.good) (he : e.good) : zeroB q w e k = onlyB k q w e := by
  unfold zeroB onlyB
  rw [noQ_eq hq, noW_eq hw, noE_eq he, Bool.and_assoc]
theorem rOK_eq {o : Opr} (g : o.good) : o.rOK = (!oBad o && o.ok) := by
  unfold Opr.rOK partOK oBad Opr.ok
  rw [zero_eq _ g.k1 g.k2 g.k3]
  rcases k4 o.kind with ⟨k1, k2, k3⟩ | ⟨k1, k2, k3⟩ | ⟨k1, k2, k3⟩ | ⟨k1, k2, k3⟩
  · rw [k1, k2, k3]
    have : o.kind = 1 := by simpa using k1
    rw [this]
    cases onlyB 1 o.q o.w o.e <;> cases qBad o.q <;> rfl
  · rw [k1, k2, k3]
    have : o.kind = 2 := by simpa using k2
    rw [this]
    cases onlyB 2 o.q o.w o.e <;> cases wBad o.w <;> rfl
  · rw [k1, k2, k3]
    have : o.kind = 3 := by simpa using k3
    rw [this]
    cases onlyB 3 o.q o.w o.e <;> cases eBad o.e <;> rfl
  · rw [k1, k2, k3]
    simp
theorem all_rOK : ∀ {L : List Opr}, (∀ o ∈ L, o.good) → L.all Opr.rOK = (!L.any oBad && L.all Opr.ok)
  | [], _ => rfl
  | o :: L, h => by
    have ih := all_rOK (L := L) fun x hx => h x (by simp [hx])
    simp only [List.all_cons, List.any_cons, ih, rOK_eq (h o (by simp))]
    cases oBad o <;> cases o.ok <;> cases L.any oBad <;> simp
theorem byteN_len (n : Nat) : byteN (n : Int) = decide ((n : Int) > 255) := by
  unfold byteN
  rw [decide_eq_false (by omega : ¬ (n : Int) < 0), Bool.false_or]
theorem opsOK_eq {L : List Opr} (h : ∀ o ∈ L, o.good) : opsOK L = (!osBad L && L.all Opr.ok) := by
  unfold opsOK osBad
  rw [all_rOK h, byteN_len]
  cases decide ((L.length : Int) > 255) <;> cases L.any oBad <;> simp
theorem tr_eq (t : Tst) : t.rOK = !tBad t := by
  unfold Tst.rOK tBad
  simp only [List.any_cons, List.any_nil, Bool.or_false]
  cases long t.key <;> cases long t.val <;> cases byteN t.of <;> cases byteN t.way <;> rfl
theorem tsOK_eq (L : List Tst) : tsOK L = !tsBad L := by
  have : L.all Tst.rOK = !L.any tBad := by
    induction L with
    | nil => rfl
    | cons t L ih => simp only [List.all_cons, List.any_cons, ih, tr_eq, Bool.not_or]
  unfold tsOK tsBad
  rw [this, byteN_len, Bool.not_or]
theorem txnOK_eq {r : Req} (g : r.good) : txnOK r.ifs r.thn r.els = (!tsBad r.ifs && ((!osBad r.thn && r.thn.all Opr.ok) && (!osBad r.els && r.els.all Opr.ok))) := by
  unfold txnOK
  rw [tsOK_eq, opsOK_eq g.k4.k1.1, opsOK_eq g.k4.k2.1]
theorem lens_eq {r : Req} (g : r.good) : (!decide (lSum r.ifs r.thn r.els > 0)) = lens r ∧ (lens r = true → r.thn.all Opr.ok = true ∧ r.els.all Opr.ok = true) := by
  have a := g.k4.k0.2.1; have b := g.k4.k1.2.1; have c := g.k4.k2.2.1
  dsimp only at a b c
  unfold lSum lens
  simp only [List.length_map]
  rw [wrap_i64 ((r.ifs.length : Int) + r.thn.length) (by omega) (by omega), wrap_i64 _ (by omega) (by omega)]
  refine ⟨?_, fun h => ?_⟩
  · rw [Bool.eq_iff_iff]; simp; omega
  · simp at h
    have h1 : r.thn = [] := List.eq_nil_of_length_eq_zero (by omega)
    have h2 : r.els = [] := List.eq_nil_of_length_eq_zero (by omega)
    rw [h1, h2]; exact ⟨rfl, rfl⟩
theorem wa_eq {w : Wat} (g : w.good) : noWaR w = noWa w ∧ (noWa w = true → wLong w = false) := by
  have a := g.k0.len; have b := g.k1.len
  unfold noWaR noWa wSum wLong
  simp only [byts_len]
  rw [wrap_i64 _ (by omega) (by omega)]
  refine ⟨?_, fun h => ?_⟩
  · rw [Bool.eq_iff_iff]; simp; constructor
    · rintro ⟨h1, h2, h3, h4, h5⟩; exact ⟨⟨⟨⟨by omega, h2⟩, h3⟩, h4⟩, h5⟩
    · rintro ⟨⟨⟨⟨h1, h2⟩, h3⟩, h4⟩, h5⟩; exact ⟨by omega, h2, h3, h4, h5⟩
  · simp at h
    have h1 : w.key = [] := List.eq_nil_of_length_eq_zero (by omega)
    have h2 : w.en = [] := List.eq_nil_of_length_eq_zero (by omega)
    rw [h1, h2]; rfl
theorem ref_eq {r : Req} (g : r.good) : refOK r = encOK r := by
  obtain ⟨l1, l2⟩ := lens_eq g
  obtain ⟨w1, w2⟩ := wa_eq g.k5
  have t := txnOK_eq g
  have z := zero_eq r.kind g.k1 g.k2 g.k3
  unfold refOK encOK encBad spareB restB bodyOK partOK
  rw [l1, w1, t, z]
  have wl : wLong r.wa = (long r.wa.key || long r.wa.en) := by simp [wLong]
  clear l1 w1 t z g
  generalize lens r = L at *
  generalize noWa r.wa = W at *
  generalize onlyB r.kind r.q r.w r.e = O at *
  generalize r.thn.all Opr.ok = X at *
  generalize r.els.all Opr.ok = Y at *
  generalize (r.rev == 0) = R at *
  generalize (r.id == 0) = I at *
  generalize (r.ttl == 0) = T at *
  obtain ⟨kind, q, w, e, ifs, thn, els, wa, rev, id, ttl⟩ := r
  dsimp only at *
  rcases kinds kind with rfl | rfl | rfl | rfl | rfl | rfl | rfl | rfl | rfl | rfl | rfl | rfl | rfl | rfl | rfl | rfl | rfl | hk
  all_goals try simp [rBad, idB, byteN]
  all_goals grind
end Go.Ab
