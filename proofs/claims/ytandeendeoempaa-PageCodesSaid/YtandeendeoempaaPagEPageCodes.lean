/- The bytes of a page, as package page writes them. -/
import Derived.Test.YtandeendeoempaaPagPageCodes
import Derived.Test.YtandeendeoempaaPCx5
import Derived.Test.YtandeendeoempaaPCx6
import Derived.Test.YtandeendeoempaaPCx7
import Derived.Test.YtandeendeoempaaPCx8
set_option linter.unusedSimpArgs false
namespace Go.Proofs.Ytandeendeoempaa.PagE
open Go.RowKit Go.Proofs.YtandeendeoempaaW.PrintWords Go.Proofs.YtandeendeoempaaW.PrintLast Go.Proofs.YtandeendeoempaaW.PrintMore Go.Proofs.Ytandeendeoempaa.PC Go.Proofs.Ytandeendeoempaa.Base Go.Proofs.Ytandeendeoempaa.Oct Go.Proofs.Ytandeendeoempaa.Crc Go.Proofs.Ytandeendeoempaa.Sum Go.Proofs.Ytandeendeoempaa.Pag

theorem put_ev (b : List Int) (n : Int) (d : Nat) (h0 : 0 ≤ n) (h1 : n < 256 ^ d) (hd : 1 ≤ d) (h8 : d ≤ 8) (hl : b.length + d < 140737488355328) : Ev (fun k => page_put.f k b n d) (b ++ putB n d) := by
  have p8 := pow256_le h8
  unfold page_put.f
  have e : putE n d = (putB n d, 0) := by
    unfold putE
    rw [if_neg (by omega), Int.toNat_natCast, Int.ediv_eq_zero_of_lt h0 h1, if_neg (by simp)]
  refine Ev.bind (Ev.eq (Put_ev n d h0 (by omega) (by omega) (by omega)) e) ?_
  exact Ev.iteT (by simp only [putB_length]; omega) (Ev.now _)
/-- The same for a number of Go's int, where it is none below nought. -/
theorem putw_ev (b : List Int) (n : Int) (d : Nat) (h0 : 0 ≤ n) (h1 : n < 256 ^ d) (hd : 1 ≤ d) (h8 : d ≤ 8) (hl : b.length + d < 140737488355328) : Ev (fun k => page_put.f k b (IntKind.u64.wrap n) d) (b ++ putB n d) := by
  have p8 := pow256_le h8
  rw [wrap_u64_id h0 (by omega)]
  exact put_ev b n d h0 h1 hd h8 hl
def itemY (x : S44) : List Int := putB (x.f0.length : Int) 1 ++ putB x.f2 2 ++ x.f0 ++ (if x.f2 > 64 then putB x.f3 4 else x.f1)
def kidY (x : S60) : List Int := putB (x.f0.length : Int) 1 ++ x.f0 ++ putB x.f1 4
def idY (n : Int) : List Int := putB n 4
theorem itemY_len (x : S44) : (itemY x).length = itemLen x := by
  unfold itemY itemLen
  split <;> simp [putB_length] <;> omega
theorem kidY_len (x : S60) : (kidY x).length = kidLen x := by
  unfold kidY kidLen
  simp [putB_length]; omega
def flat {α : Type} (f : α → List Int) (l : List α) : List Int := (l.map f).flatten
theorem flat_nil {α : Type} (f : α → List Int) : flat f [] = [] := rfl
theorem flat_cons {α : Type} (f : α → List Int) (x : α) (l : List α) : flat f (x :: l) = f x ++ flat f l := by simp [flat]
theorem flat_len {α : Type} (f : α → List Int) (g : α → Nat) (h : ∀ x, (f x).length = g x) : ∀ l : List α, (flat f l).length = (l.map g).sum
  | [] => rfl
  | x :: l => by rw [flat_cons, List.length_append, h, flat_len f g h l]; simp
theorem ids_len : ∀ l : List Int, (flat idY l).length = 4 * l.length
  | [] => rfl
  | x :: l => by rw [flat_cons, List.length_append, ids_len l]; simp [idY, putB_length]; omega
def pad (b : List Int) : List Int := Ext.copyL (List.replicate 252 0) b
def headY (p : Pg) : List Int := putB p.k 1 ++ putB p.t 8 ++ putB p.n 4 ++ putB (thingsE p).1 2
def bodyY (p : Pg) : List Int := headY p ++ flat itemY p.items ++ flat kidY p.kids ++ p.data ++ flat idY p.ids
def encE (p : Pg) : List Int × Int := if rightB p = true then (sealB (pad (bodyY p)), 0) else ([], 4)
theorem head_len (p : Pg) : (headY p).length = 15 := by simp [headY, putB_length]
theorem body_len (p : Pg) : (bodyY p).length = 15 + usedN p := by
  unfold bodyY usedN
  simp only [List.length_append, head_len, flat_len itemY itemLen itemY_len, flat_len kidY kidLen kidY_len, ids_len]
  omega
theorem pad_eq {b : List Int} (h : b.length ≤ 252) : pad b = b ++ List.replicate (252 - b.length) 0 := by
  unfold pad Ext.copyL
  rw [List.length_replicate, List.take_of_length_le h, List.drop_replicate]
theorem pad_len (b : List Int) : (pad b).length = 252 := by unfold pad; rw [Ext.copyL_length, List.length_replicate]

/-! ### what a right page's parts are -/
theorem chk_all {α : Type} {f : α → Bool} {lt : α → α → Bool} : ∀ {l : List α} {p : Option α}, chk f lt p l = true → ∀ x ∈ l, f x = true
  | [], _, _, _, hx => by cases hx
  | y :: l, p, h, x, hx => by
    rw [chk_cons] at h
    simp only [Bool.and_eq_true] at h
    rcases List.mem_cons.1 hx with rfl | hx
    · exact h.1
    · exact chk_all h.2.2 x hx
theorem item_ok {x : S44} (h : itemB x = true) : x.f0.length ≤ 32 ∧ 0 ≤ x.f2 ∧ x.f2 ≤ 4096 ∧ (x.f2 ≤ 64 → (x.f1.length : Int) = x.f2 ∧ x.f3 = 0) ∧ (64 < x.f2 → x.f1.length = 0 ∧ 1 ≤ x.f3 ∧ x.f3 < 1024) := by
  unfold itemB idB at h
  by_cases c : x.f2 ≤ 64
  · rw [if_pos c] at h
    simp at h
    exact ⟨h.1, h.2.1, h.2.2.1, fun _ => h.2.2.2, fun _ => by omega⟩
  · rw [if_neg c] at h
    simp at h
    exact ⟨h.1, h.2.1, h.2.2.1, fun _ => by omega, fun _ => ⟨by simp [h.2.2.2.1], h.2.2.2.2⟩⟩
theorem id_ok {n : Int} (h : idB n = true) : 1 ≤ n ∧ n < 1024 := by simpa [idB] using h
theorem kid_ok {x : S60} (h : kidB x = true) : x.f0.length ≤ 32 ∧ 1 ≤ x.f1 ∧ x.f1 < 1024 := by
  unfold kidB at h
  simp only [Bool.and_eq_true, decide_eq_true_eq] at h
  exact ⟨h.1, id_ok h.2⟩
structure Rt (p : Pg) : Prop where
  k : 1 ≤ p.k ∧ p.k ≤ 4
  n : 0 ≤ p.n ∧ p.n < 1024
  c : 0 ≤ (thingsE p).1 ∧ (thingsE p).1 ≤ 237
  one : (thingsE p).2 = true
  some' : 1 ≤ (thingsE p).1 ∨ p.k = 4
  low : p.n = 0 ∨ (p.k ≠ 1 ∧ p.k ≠ 2)
  items : ∀ x ∈ p.items, itemB x = true
  kids : ∀ x ∈ p.kids, kidB x = true
  ids : ∀ x ∈ p.ids, idB x = true
  used : usedN p ≤ 237
theorem things_k {p : Pg} (h : (thingsE p).2 = true) : (1 ≤ p.k ∧ p.k ≤ 4) ∧ 0 ≤ (thingsE p).1 := by
  unfold thingsE page_things.g at h ⊢
  repeat' split at h
  all_goals first | (cases h; done) | skip
  all_goals (simp_all; try omega)
theorem right_ok {p : Pg} (h : rightB p = true) : Rt p := by
  unfold rightB headB itemsB kidsB idsB at h
  simp only [Bool.and_eq_true, Bool.or_eq_true, decide_eq_true_eq] at h
  obtain ⟨⟨h1, h2, h3, h4, h5, h6⟩, h7, h8, h9, h10⟩ := h
  obtain ⟨k1, k2⟩ := things_k h1
  exact ⟨k1, ⟨h4, h5⟩, ⟨k2, h3⟩, h1, h2, by omega, chk_all h7, chk_all h8, chk_all h9, h10⟩

theorem things_1 {p : Pg} (h : (thingsE p).2 = true) : (p.k = 1 ∧ p.kids = [] ∧ p.data = [] ∧ p.ids = [] ∧ (thingsE p).1 = p.items.length) ∨ (p.k = 2 ∧ p.items = [] ∧ p.data = [] ∧ p.ids = [] ∧ (thingsE p).1 = p.kids.length) ∨
    (p.k = 3 ∧ p.items = [] ∧ p.kids = [] ∧ p.ids = [] ∧ (thingsE p).1 = p.data.length) ∨ (p.k = 4 ∧ p.items = [] ∧ p.kids = [] ∧ p.data = [] ∧ (thingsE p).1 = p.ids.length) := by
  unfold thingsE page_things.g at h ⊢
  by_cases c1 : p.k = 1
  · simp only [if_pos c1] at h ⊢
    split at h
    · rename_i z
      rw [if_pos z]
      exact .inl ⟨c1, List.eq_nil_of_length_eq_zero z.1, List.eq_nil_of_length_eq_zero z.2.1, List.eq_nil_of_length_eq_zero z.2.2, rfl⟩
    · cases h
  simp only [if_neg c1] at h ⊢
  by_cases c2 : p.k = 2
  · simp only [if_pos c2] at h ⊢
    split at h
    · rename_i z
      rw [if_pos z]
      exact .inr (.inl ⟨c2, List.eq_nil_of_length_eq_zero z.1, List.eq_nil_of_length_eq_zero z.2.1, List.eq_nil_of_length_eq_zero z.2.2, rfl⟩)
    · cases h
  simp only [if_neg c2] at h ⊢
  by_cases c3 : p.k = 3
  · simp only [if_pos c3] at h ⊢
    split at h
    · rename_i z
      rw [if_pos z]
      exact .inr (.inr (.inl ⟨c3, List.eq_nil_of_length_eq_zero z.1, List.eq_nil_of_length_eq_zero z.2.1, List.eq_nil_of_length_eq_zero z.2.2, rfl⟩))
    · cases h
  simp only [if_neg c3] at h ⊢
  by_cases c4 : p.k = 4
  · simp only [if_pos c4] at h ⊢
    split at h
    · rename_i z
      rw [if_pos z]
      exact .inr (.inr (.inr ⟨c4, List.eq_nil_of_length_eq_zero z.1, List.eq_nil_of_length_eq_zero z.2.1, List.eq_nil_of_length_eq_zero z.2.2, rfl⟩))
    · cases h
  simp only [if_neg c4] at h
  cases h
/-! ### Encode -/
section
variable (p : Pg)
theorem Enc_l2 (h : ∀ x ∈ p.ids, idB x = true) (hl : p.ids.length ≤ 1000) (b0 : List Int) (hb : Bytes b0) : ∀ (m : List Int) (i : Nat) (b : List Int), p.ids.drop i = m → i ≤ p.ids.length → Bytes b → b ++ flat idY m = b0 → b0.length < 100000 →
    Ev (fun k => page_Encode.l2 k b p.ids (p.ids.length : Int) i) (sealB (pad b0), 0)
  | [], i, b, hm, hi, hbb, e, hl0 => by
    have : p.ids.length ≤ i := List.drop_eq_nil_iff.1 hm
    rw [flat_nil, List.append_nil] at e
    subst e
    refine Ev.step (fun k => by rw [page_Encode.l2]) ?_
    refine Ev.iteF (by omega) ?_
    refine Ev.iteT (by omega) ?_
    refine Ev.bind0 rfl ?_
    refine Ev.iteT (by rw [List.length_replicate]; omega) ?_
    have hpb : Bytes (pad b) := by
      unfold pad Ext.copyL
      refine bytes_append.2 ⟨bytes_take hb _, bytes_drop (fun x hx => ?_) _⟩
      rw [List.eq_of_mem_replicate hx]
      omega
    exact Ev.bind (Seal_ev (pad b) hpb (by rw [pad_len]; omega)) (Ev.now _)
  | x :: m, i, b, hm, hi, hbb, e, hl0 => by
    obtain ⟨hh, hx, hm'⟩ := drop_cons hm
    have e1 : rd p.ids i = x := (rd_getD p.ids _ i hh).trans hx
    have hx1 := id_ok (h x (by rw [← hx]; exact List.getElem_mem _))
    rw [flat_cons] at e
    have p4 : (256 : Int) ^ 4 = 4294967296 := by decide
    have le : b.length + 4 ≤ b0.length := by rw [← e]; simp only [List.length_append, idY, putB_length]; omega
    refine Ev.step (fun k => by rw [page_Encode.l2]) (Ev.iteT (by omega) (Ev.iteT (by omega) (Ev.iteT (by omega) ?_)))
    rw [e1, wrapInc (by omega)]
    refine Ev.bind (putw_ev b x 4 (by omega) (by rw [p4]; omega) (by omega) (by omega) (by omega)) ?_
    exact Enc_l2 h hl b0 hb m (i + 1) (b ++ putB x 4) hm' hh (bytes_append.2 ⟨hbb, putB_bytes _ _⟩) (by rw [← e]; simp [idY]) hl0
theorem Enc_l1 (h : ∀ x ∈ p.ids, idB x = true) (hl : p.ids.length ≤ 1000) (hk : ∀ x ∈ p.kids, kidB x = true) (hkl : p.kids.length ≤ 1000) (hdb : Bytes p.data) (hkb : ∀ x ∈ p.kids, Bytes x.f0) (b0 : List Int) (hb : Bytes b0) : ∀ (m : List S60) (i : Nat) (b : List Int), p.kids.drop i = m → i ≤ p.kids.length → Bytes b → b ++ (flat kidY m ++ (p.data ++ flat idY p.ids)) = b0 → b0.length < 100000 →
    Ev (fun k => page_Encode.l1 k b p.kids (p.kids.length : Int) i p.k p.t p.n p.items p.kids p.data p.ids) (sealB (pad b0), 0)
  | [], i, b, hm, hi, hbb, e, hl0 => by
    have : p.kids.length ≤ i := List.drop_eq_nil_iff.1 hm
    rw [flat_nil, List.nil_append] at e
    have le : b.length + p.data.length ≤ b0.length := by rw [← e]; simp only [List.length_append]; omega
    refine Ev.step (fun k => by rw [page_Encode.l1]) ?_
    refine Ev.iteF (by omega) ?_
    refine Ev.iteT (by omega) ?_
    exact Enc_l2 p h hl b0 hb p.ids 0 (b ++ p.data) rfl (by omega) (bytes_append.2 ⟨hbb, hdb⟩) (by rw [← e]; simp) hl0
  | x :: m, i, b, hm, hi, hbb, e, hl0 => by
    obtain ⟨hh, hx, hm'⟩ := drop_cons hm
    have e1 : rd_T60 p.kids i = x := (rd_getD p.kids _ i hh).trans hx
    have hxm : x ∈ p.kids := by rw [← hx]; exact List.getElem_mem _
    have hx1 := kid_ok (hk x hxm)
    rw [flat_cons] at e
    have p4 : (256 : Int) ^ 4 = 4294967296 := by decide
    have p1 : (256 : Int) ^ 1 = 256 := by decide
    have le : b.length + (5 + x.f0.length) ≤ b0.length := by rw [← e]; simp only [List.length_append, kidY, putB_length]; omega
    refine Ev.step (fun k => by rw [page_Encode.l1]) (Ev.iteT (by omega) (Ev.iteT (by omega) (Ev.iteT (by omega) ?_)))
    rw [e1, wrapInc (by omega)]
    refine Ev.bind (putw_ev b (x.f0.length : Int) 1 (by omega) (by rw [p1]; omega) (by omega) (by omega) (by omega)) ?_
    refine Ev.iteT (by simp only [List.length_append, putB_length]; omega) ?_
    refine Ev.bind (putw_ev _ x.f1 4 (by omega) (by rw [p4]; omega) (by omega) (by omega) (by simp only [List.length_append, putB_length]; omega)) ?_
    exact Enc_l1 h hl hk hkl hdb hkb b0 hb m (i + 1) _ hm' hh (bytes_append.2 ⟨bytes_append.2 ⟨bytes_append.2 ⟨hbb, putB_bytes _ _⟩, hkb x hxm⟩, putB_bytes _ _⟩) (by rw [← e]; simp [kidY]) hl0
theorem Enc_l0 (h : ∀ x ∈ p.ids, idB x = true) (hl : p.ids.length ≤ 1000) (hk : ∀ x ∈ p.kids, kidB x = true) (hkl : p.kids.length ≤ 1000) (hdb : Bytes p.data) (hkb : ∀ x ∈ p.kids, Bytes x.f0) (hi' : ∀ x ∈ p.items, itemB x = true) (hil : p.items.length ≤ 1000) (hib : ∀ x ∈ p.items, Bytes x.f0 ∧ Bytes x.f1) (b0 : List Int) (hb : Bytes b0) : ∀ (m : List S44) (i : Nat) (b : List Int), p.items.drop i = m → i ≤ p.items.length → Bytes b → b ++ (flat itemY m ++ (flat kidY p.kids ++ (p.data ++ flat idY p.ids))) = b0 → b0.length < 100000 →
    Ev (fun k => page_Encode.l0 k b p.items (p.items.length : Int) i p.k p.t p.n p.items p.kids p.data p.ids) (sealB (pad b0), 0)
  | [], i, b, hm, hi, hbb, e, hl0 => by
    have : p.items.length ≤ i := List.drop_eq_nil_iff.1 hm
    rw [flat_nil, List.nil_append] at e
    refine Ev.step (fun k => by rw [page_Encode.l0]) ?_
    refine Ev.iteF (by omega) ?_
    exact Enc_l1 p h hl hk hkl hdb hkb b0 hb p.kids 0 b rfl (by omega) hbb e hl0
  | x :: m, i, b, hm, hi, hbb, e, hl0 => by
    obtain ⟨hh, hx, hm'⟩ := drop_cons hm
    have e1 : rd_T44 p.items i = x := (rd_getD p.items _ i hh).trans hx
    have hxm : x ∈ p.items := by rw [← hx]; exact List.getElem_mem _
    obtain ⟨x1, x2, x3, x4, x5⟩ := item_ok (hi' x hxm)
    have hxb := hib x hxm
    rw [flat_cons] at e
    have p4 : (256 : Int) ^ 4 = 4294967296 := by decide
    have p2 : (256 : Int) ^ 2 = 65536 := by decide
    have p1 : (256 : Int) ^ 1 = 256 := by decide
    have ll := itemY_len x
    unfold itemLen at ll
    have le : b.length + (itemY x).length ≤ b0.length := by rw [← e]; simp only [List.length_append]; omega
    refine Ev.step (fun k => by rw [page_Encode.l0]) (Ev.iteT (by omega) (Ev.iteT (by omega) (Ev.iteT (by omega) ?_)))
    rw [e1, wrapInc (by omega)]
    refine Ev.bind (putw_ev b (x.f0.length : Int) 1 (by omega) (by rw [p1]; omega) (by omega) (by omega) (by omega)) ?_
    refine Ev.bind (putw_ev _ x.f2 2 (by omega) (by rw [p2]; omega) (by omega) (by omega) (by simp only [List.length_append, putB_length]; omega)) ?_
    refine Ev.iteT (by simp only [List.length_append, putB_length]; omega) ?_
    refine Ev.bind0 rfl ?_
    by_cases c : x.f2 > 64
    · have := x5 c
      rw [if_pos c] at ll
      refine Ev.iteT c ?_
      refine Ev.bind (putw_ev _ x.f3 4 (by omega) (by rw [p4]; omega) (by omega) (by omega) (by simp only [List.length_append, putB_length]; omega)) ?_
      exact Enc_l0 h hl hk hkl hdb hkb hi' hil hib b0 hb m (i + 1) _ hm' hh (bytes_append.2 ⟨bytes_append.2 ⟨bytes_append.2 ⟨bytes_append.2 ⟨hbb, putB_bytes _ _⟩, putB_bytes _ _⟩, hxb.1⟩, putB_bytes _ _⟩) (by rw [← e]; simp [itemY, c]) hl0
    · rw [if_neg c] at ll
      refine Ev.iteF c ?_
      refine Ev.iteT (by simp only [List.length_append, putB_length]; omega) ?_
      exact Enc_l0 h hl hk hkl hdb hkb hi' hil hib b0 hb m (i + 1) _ hm' hh (bytes_append.2 ⟨bytes_append.2 ⟨bytes_append.2 ⟨bytes_append.2 ⟨hbb, putB_bytes _ _⟩, putB_bytes _ _⟩, hxb.1⟩, hxb.2⟩) (by rw [← e]; simp [itemY, c]) hl0
end
structure OkP (p : Pg) : Prop where
  t : 0 ≤ p.t ∧ p.t < 18446744073709551616
  items : ∀ x ∈ p.items, Bytes x.f0 ∧ Bytes x.f1
  kids : ∀ x ∈ p.kids, Bytes x.f0
  data : Bytes p.data
  used : usedN p < 4611686018427387904
theorem flat_bytes {α : Type} {f : α → List Int} : ∀ {l : List α}, (∀ x ∈ l, Bytes (f x)) → Bytes (flat f l)
  | [], _ => bytes_nil
  | x :: l, h => by rw [flat_cons]; exact bytes_append.2 ⟨h x (by simp), flat_bytes fun y hy => h y (by simp [hy])⟩
theorem item_bytes {x : S44} (h : Bytes x.f0 ∧ Bytes x.f1) : Bytes (itemY x) := by
  unfold itemY
  refine bytes_append.2 ⟨bytes_append.2 ⟨bytes_append.2 ⟨putB_bytes _ _, putB_bytes _ _⟩, h.1⟩, ?_⟩
  split
  · exact putB_bytes _ _
  · exact h.2
theorem body_bytes {p : Pg} (ok : OkP p) : Bytes (bodyY p) :=
  bytes_append.2 ⟨bytes_append.2 ⟨bytes_append.2 ⟨bytes_append.2 ⟨bytes_append.2 ⟨bytes_append.2 ⟨bytes_append.2 ⟨putB_bytes _ _, putB_bytes _ _⟩, putB_bytes _ _⟩, putB_bytes _ _⟩, flat_bytes fun x hx => item_bytes (ok.items x hx)⟩, flat_bytes fun x hx => bytes_append.2 ⟨bytes_append.2 ⟨putB_bytes _ _, ok.kids x hx⟩, putB_bytes _ _⟩⟩, ok.data⟩, flat_bytes fun _ _ => putB_bytes _ _⟩
theorem pad_bytes {b : List Int} (h : Bytes b) : Bytes (pad b) := by
  unfold pad Ext.copyL
  refine bytes_append.2 ⟨bytes_take h _, bytes_drop (fun x hx => ?_) _⟩
  rw [List.eq_of_mem_replicate hx]
  omega
theorem Encode_ev (p : Pg) (ok : OkP p) : Ev (fun k => page_Encode.f k p.k p.t p.n p.items p.kids p.data p.ids) (encE p) := by
  have hr := Right_ev p ok.used (fun x hx => (ok.items x hx).1) ok.kids
  unfold page_Encode.f encE
  refine Ev.bind hr ?_
  by_cases c : rightB p = true
  case neg => rw [if_neg c]; exact Ev.iteF c (Ev.now _)
  rw [if_pos c]
  have r := right_ok c
  have hu := r.used
  have h1 := items_le p.items
  have h2 := kids_le p.kids
  unfold usedN at hu
  have e : page_things.f p.k p.t p.n p.items p.kids p.data p.ids = some (thingsE p) := rfl
  have p8 := pow256_8
  have p4 : (256 : Int) ^ 4 = 4294967296 := by decide
  have p2 : (256 : Int) ^ 2 = 65536 := by decide
  have p1 : (256 : Int) ^ 1 = 256 := by decide
  have rk := r.k
  have rn := r.n
  have rc := r.c
  have rt := ok.t
  refine Ev.iteT c (Ev.bind0 e ?_)
  refine Ev.bind (putw_ev [] p.k 1 (by omega) (by rw [p1]; omega) (by omega) (by omega) (by simp)) ?_
  refine Ev.bind (put_ev _ p.t 8 rt.1 (by rw [p8]; exact rt.2) (by omega) (by omega) (by simp [putB_length])) ?_
  refine Ev.bind (putw_ev _ p.n 4 (by omega) (by rw [p4]; omega) (by omega) (by omega) (by simp [putB_length])) ?_
  refine Ev.bind (putw_ev _ (thingsE p).1 2 (by omega) (by rw [p2]; omega) (by omega) (by omega) (by simp [putB_length])) ?_
  have bl := body_len p
  have bu := r.used
  exact Enc_l0 p r.ids (by omega) r.kids (by omega) ok.data ok.kids r.items (by omega) ok.items (bodyY p) (body_bytes ok) p.items 0 _ rfl (by omega)
    (bytes_append.2 ⟨bytes_append.2 ⟨bytes_append.2 ⟨bytes_append.2 ⟨bytes_nil, putB_bytes _ _⟩, putB_bytes _ _⟩, putB_bytes _ _⟩, putB_bytes _ _⟩) (by simp [bodyY, headY]) (by omega)
theorem enc_slice {l : List Int} : ((sealB l).take 24).drop 19 = (l.take 20).drop 15 := by
  unfold sealB
  rw [List.take_append, List.drop_append, putB_length, List.drop_of_length_le (by rw [List.length_take, putB_length]; omega), List.length_take, putB_length]
  rfl
theorem lives_ev : Ev (fun k => terrierlaw04_lives.f k) true := by
  let p : Pg := ⟨1, 0, 0, [⟨[97], [120], 1, 0⟩], [], [], []⟩
  have ok : OkP p := ⟨by decide, by simp [p, Bytes], by simp [p], by simp [p, Bytes], by decide⟩
  have he := Encode_ev p ok
  have e : encE p = (sealB (pad (bodyY p)), 0) := by
    unfold encE
    exact if_pos (by decide)
  rw [e] at he
  have lb := pad_len (bodyY p)
  unfold terrierlaw04_lives.f
  refine Ev.bind he (Ev.iteT rfl (Ev.iteT (by rw [seal_length, lb]; rfl) (Ev.iteT (by decide) (Ev.iteT (by rw [seal_length, lb]; decide) (Ev.eq (Ev.now _) ?_)))))
  rw [enc_slice, toList_map]
  decide +kernel
end Go.Proofs.Ytandeendeoempaa.PagE
