/- A right page is read from its own bytes as it was. -/
import Derived.Test.YtandeendeoempaaPagEPageBack
import Derived.Test.YtandeendeoempaaRdEPageBack
import Derived.Test.YtandeendeoempaaPMx13
import Derived.Test.YtandeendeoempaaPMx14
import Derived.Test.YtandeendeoempaaPMx9
set_option linter.unusedSimpArgs false
namespace Go.Proofs.Ytandeendeoempaa.PagD
open Go.RowKit Go.Proofs.YtandeendeoempaaW.PrintWords Go.Proofs.YtandeendeoempaaW.PrintLast Go.Proofs.YtandeendeoempaaW.PrintMore Go.Proofs.Ytandeendeoempaa.PM Go.Proofs.Ytandeendeoempaa.Base Go.Proofs.Ytandeendeoempaa.Oct Go.Proofs.Ytandeendeoempaa.Crc Go.Proofs.Ytandeendeoempaa.Sum Go.Proofs.Ytandeendeoempaa.RdE Go.Proofs.Ytandeendeoempaa.Pag Go.Proofs.Ytandeendeoempaa.PagE

theorem things_1 {p : Pg} (h : (thingsE p).2 = true) : (p.k = 1 ∧ p.kids = [] ∧ p.data = [] ∧ p.ids = [] ∧ (thingsE p).1 = p.items.length) ∨ (p.k = 2 ∧ p.items = [] ∧ p.data = [] ∧ p.ids = [] ∧ (thingsE p).1 = p.kids.length) ∨
    (p.k = 3 ∧ p.items = [] ∧ p.kids = [] ∧ p.ids = [] ∧ (thingsE p).1 = p.data.length) ∨ (p.k = 4 ∧ p.items = [] ∧ p.kids = [] ∧ p.data = [] ∧ (thingsE p).1 = p.ids.length) := by
  unfold thingsE page_things.g at h ⊢
  by_cases c1 : p.k = 1
  · simp only [if_pos c1] at h ⊢
    split at h
    · rename_i z
      rw [if_pos z]
      exact .inl ⟨c1, List.eq_nil_of_length_eq_zero z.1, List.eq_nil_of_length_eq_zero z.2.1, List.eq_nil_of_length_eq_zero z.2.2, rfl⟩
    · cases h
  simp only [if_neg c1] at h ⊢
  by_cases c2 : p.k = 2
  · simp only [if_pos c2] at h ⊢
    split at h
    · rename_i z
      rw [if_pos z]
      exact .inr (.inl ⟨c2, List.eq_nil_of_length_eq_zero z.1, List.eq_nil_of_length_eq_zero z.2.1, List.eq_nil_of_length_eq_zero z.2.2, rfl⟩)
    · cases h
  simp only [if_neg c2] at h ⊢
  by_cases c3 : p.k = 3
  · simp only [if_pos c3] at h ⊢
    split at h
    · rename_i z
      rw [if_pos z]
      exact .inr (.inr (.inl ⟨c3, List.eq_nil_of_length_eq_zero z.1, List.eq_nil_of_length_eq_zero z.2.1, List.eq_nil_of_length_eq_zero z.2.2, rfl⟩))
    · cases h
  simp only [if_neg c3] at h ⊢
  by_cases c4 : p.k = 4
  · simp only [if_pos c4] at h ⊢
    split at h
    · rename_i z
      rw [if_pos z]
      exact .inr (.inr (.inr ⟨c4, List.eq_nil_of_length_eq_zero z.1, List.eq_nil_of_length_eq_zero z.2.1, List.eq_nil_of_length_eq_zero z.2.2, rfl⟩))
    · cases h
  simp only [if_neg c4] at h
  cases h
abbrev Out := Int × Int × Int × List S44 × List S60 × List Int × List Int × Int
section
variable (B : List Int) (hb : Bytes B) (hl : B.length ≤ 1000) (L : List Int) (R : Out)
include hb hl
theorem num_at' {pre q : List Int} {n : Int} (d : Nat) (hB : B = pre ++ putB n d ++ q) (h0 : 0 ≤ n) (h1 : n < 256 ^ d) (hd1 : 1 ≤ d) (hd8 : d ≤ 8) : Ev (fun k => octets_Reader_Num.f k B (pre.length : Int) 0 (d : Int)) (n, (pre.length : Int) + d, 0) := by
  have hlen : pre.length ≤ B.length := by rw [hB]; simp only [List.length_append]; omega
  exact Ev.eq (Num_ev B hb (by omega) _ _ _ (by omega) (by omega) (by omega)) (numE_at hB h0 h1 hd1 hd8 _ _ rfl rfl)
theorem bytes_at' {pre t q : List Int} (n : Int) (hB : B = pre ++ t ++ q) (hn : n = t.length) : octets_Reader_Bytes.f B (pre.length : Int) 0 n = some (t, (pre.length : Int) + t.length, 0) := by
  have hlen : pre.length + t.length ≤ B.length := by rw [hB]; simp only [List.length_append]; omega
  rw [Bytes_eq B hb (by omega) _ _ _ (by omega) (by omega) (by omega), bytesE_at hB _ _ rfl hn]
theorem K1 (t nx : Int) (its : List S44) (hi : ∀ x ∈ its, itemB x = true) (hs : its.length ≤ 237) (post : List Int) (done : ∀ a : Int, Ev (fun k => page_Decode.l0 k L (its.length : Int) (its.length : Int) B a 0 1 t nx its [] [] []) R) :
    ∀ (m acc : List S44) (pre : List Int), acc ++ m = its → B = pre ++ flat itemY m ++ post → Ev (fun k => page_Decode.l0 k L (its.length : Int) (acc.length : Int) B (pre.length : Int) 0 1 t nx acc [] [] []) R
  | [], acc, pre, e, _ => by
    rw [List.append_nil] at e
    subst e
    exact done _
  | x :: m, acc, pre, e, hB => by
    have hx := hi x (by rw [← e]; simp)
    obtain ⟨x1, x2, x3, x4, x5⟩ := item_ok hx
    have le : acc.length + (m.length + 1) = its.length := by rw [← e]; simp
    have p4 : (256 : Int) ^ 4 = 4294967296 := by decide
    have p2 : (256 : Int) ^ 2 = 65536 := by decide
    have p1 : (256 : Int) ^ 1 = 256 := by decide
    rw [flat_cons] at hB
    refine Ev.step (fun k => by rw [page_Decode.l0]) (Ev.iteT (by omega) (Ev.iteT rfl ?_))
    rw [wrapInc (by omega)]
    refine Ev.bind (num_at' B hb hl (pre := pre) (n := (x.f0.length : Int)) 1 (q := putB x.f2 2 ++ x.f0 ++ (if x.f2 > 64 then putB x.f3 4 else x.f1) ++ flat itemY m ++ post) (by rw [hB]; simp [itemY]) (by omega) (by rw [p1]; omega) (by omega) (by omega)) ?_
    have h2 := num_at' B hb hl (pre := pre ++ putB (x.f0.length : Int) 1) (n := x.f2) 2 (q := x.f0 ++ (if x.f2 > 64 then putB x.f3 4 else x.f1) ++ flat itemY m ++ post) (by rw [hB]; simp [itemY]) x2 (by rw [p2]; omega) (by omega) (by omega)
    simp only [List.length_append, putB_length, Int.natCast_add] at h2
    refine Ev.bind h2 ?_
    have h3 := bytes_at' B hb hl (pre := pre ++ putB (x.f0.length : Int) 1 ++ putB x.f2 2) (t := x.f0) (x.f0.length : Int) (q := (if x.f2 > 64 then putB x.f3 4 else x.f1) ++ flat itemY m ++ post) (by rw [hB]; simp [itemY]) rfl
    simp only [List.length_append, putB_length, Int.natCast_add] at h3
    rw [wrap64_id (n := (x.f0.length : Int)) (by omega) (by omega), wrap64_id (n := x.f2) (by omega) (by omega)]
    refine Ev.bind0 h3 ?_
    by_cases c : x.f2 > 64
    · obtain ⟨y1, y2, y3⟩ := x5 (by omega)
      refine Ev.iteT c ?_
      have h4 := num_at' B hb hl (pre := pre ++ putB (x.f0.length : Int) 1 ++ putB x.f2 2 ++ x.f0) (n := x.f3) 4 (q := flat itemY m ++ post) (by rw [hB]; simp [itemY, c]) (by omega) (by rw [p4]; omega) (by omega) (by omega)
      simp only [List.length_append, putB_length, Int.natCast_add] at h4
      refine Ev.bind h4 (Ev.iteT (by omega) ?_)
      rw [wrap64_id (n := x.f3) (by omega) (by omega)]
      have ex : (⟨x.f0, [], x.f2, x.f3⟩ : S44) = x := by
        have : x.f1 = [] := List.eq_nil_of_length_eq_zero y1
        rw [← this]
      rw [ex]
      have ih := K1 t nx its hi hs post done m (acc ++ [x]) (pre ++ itemY x) (by rw [← e]; simp) (by rw [hB]; simp)
      have el : (pre ++ itemY x).length = pre.length + 1 + 2 + x.f0.length + 4 := by simp [itemY, c, putB_length]; omega
      rw [el] at ih
      simpa only [List.length_append, List.length_singleton, Int.natCast_add] using ih
    · obtain ⟨y1, y2⟩ := x4 (by omega)
      refine Ev.iteF c ?_
      have h4 := bytes_at' B hb hl (pre := pre ++ putB (x.f0.length : Int) 1 ++ putB x.f2 2 ++ x.f0) (t := x.f1) x.f2 (q := flat itemY m ++ post) (by rw [hB]; simp [itemY, c]) y1.symm
      simp only [List.length_append, putB_length, Int.natCast_add] at h4
      refine Ev.bind0 h4 (Ev.iteT (by omega) ?_)
      have ex : (⟨x.f0, x.f1, x.f2, 0⟩ : S44) = x := by rw [← y2]
      rw [ex]
      have ih := K1 t nx its hi hs post done m (acc ++ [x]) (pre ++ itemY x) (by rw [← e]; simp) (by rw [hB]; simp)
      have el : (pre ++ itemY x).length = pre.length + 1 + 2 + x.f0.length + x.f1.length := by simp [itemY, c, putB_length]; omega
      rw [el] at ih
      simpa only [List.length_append, List.length_singleton, Int.natCast_add] using ih
theorem K2 (t nx : Int) (ks : List S60) (hi : ∀ x ∈ ks, kidB x = true) (hs : ks.length ≤ 237) (post : List Int) (done : ∀ a : Int, Ev (fun k => page_Decode.l0 k L (ks.length : Int) (ks.length : Int) B a 0 2 t nx [] ks [] []) R) :
    ∀ (m acc : List S60) (pre : List Int), acc ++ m = ks → B = pre ++ flat kidY m ++ post → Ev (fun k => page_Decode.l0 k L (ks.length : Int) (acc.length : Int) B (pre.length : Int) 0 2 t nx [] acc [] []) R
  | [], acc, pre, e, _ => by
    rw [List.append_nil] at e
    subst e
    exact done _
  | x :: m, acc, pre, e, hB => by
    have hx := hi x (by rw [← e]; simp)
    obtain ⟨x1, x2, x3⟩ := kid_ok hx
    have le : acc.length + (m.length + 1) = ks.length := by rw [← e]; simp
    have p4 : (256 : Int) ^ 4 = 4294967296 := by decide
    have p1 : (256 : Int) ^ 1 = 256 := by decide
    rw [flat_cons] at hB
    refine Ev.step (fun k => by rw [page_Decode.l0]) (Ev.iteT (by omega) (Ev.iteF (by decide) (Ev.iteT rfl ?_)))
    rw [wrapInc (by omega)]
    refine Ev.bind (num_at' B hb hl (pre := pre) (n := (x.f0.length : Int)) 1 (q := x.f0 ++ putB x.f1 4 ++ flat kidY m ++ post) (by rw [hB]; simp [kidY]) (by omega) (by rw [p1]; omega) (by omega) (by omega)) ?_
    have h3 := bytes_at' B hb hl (pre := pre ++ putB (x.f0.length : Int) 1) (t := x.f0) (x.f0.length : Int) (q := putB x.f1 4 ++ flat kidY m ++ post) (by rw [hB]; simp [kidY]) rfl
    simp only [List.length_append, putB_length, Int.natCast_add] at h3
    rw [wrap64_id (n := (x.f0.length : Int)) (by omega) (by omega)]
    refine Ev.bind0 h3 ?_
    have h4 := num_at' B hb hl (pre := pre ++ putB (x.f0.length : Int) 1 ++ x.f0) (n := x.f1) 4 (q := flat kidY m ++ post) (by rw [hB]; simp [kidY]) (by omega) (by rw [p4]; omega) (by omega) (by omega)
    simp only [List.length_append, putB_length, Int.natCast_add] at h4
    refine Ev.bind h4 (Ev.iteT (by omega) ?_)
    rw [wrap64_id (n := x.f1) (by omega) (by omega)]
    have ih := K2 t nx ks hi hs post done m (acc ++ [x]) (pre ++ kidY x) (by rw [← e]; simp) (by rw [hB]; simp)
    have el : (pre ++ kidY x).length = pre.length + 1 + x.f0.length + 4 := by simp [kidY, putB_length]; omega
    rw [el] at ih
    simpa only [List.length_append, List.length_singleton, Int.natCast_add] using ih
theorem K3 (t nx : Int) (ds : List Int) (hs : ds.length ≤ 237) (post : List Int) (done : ∀ a : Int, Ev (fun k => page_Decode.l0 k L (ds.length : Int) (ds.length : Int) B a 0 3 t nx [] [] ds []) R) :
    ∀ (m acc : List Int) (pre : List Int), acc ++ m = ds → B = pre ++ m ++ post → Ev (fun k => page_Decode.l0 k L (ds.length : Int) (acc.length : Int) B (pre.length : Int) 0 3 t nx [] [] acc []) R
  | [], acc, pre, e, _ => by
    rw [List.append_nil] at e
    subst e
    exact done _
  | x :: m, acc, pre, e, hB => by
    have le : acc.length + (m.length + 1) = ds.length := by rw [← e]; simp
    refine Ev.step (fun k => by rw [page_Decode.l0]) (Ev.iteT (by omega) (Ev.iteF (by decide) (Ev.iteF (by decide) (Ev.iteT rfl ?_))))
    rw [wrapInc (by omega)]
    have h3 := bytes_at' B hb hl (pre := pre) (t := [x]) 1 (q := m ++ post) (by rw [hB]; simp) rfl
    refine Ev.bind0 h3 (Ev.iteT (by simp only [List.length_singleton]; omega) ?_)
    have ih := K3 t nx ds hs post done m (acc ++ [x]) (pre ++ [x]) (by rw [← e]; simp) (by rw [hB]; simp)
    simpa only [List.length_append, List.length_singleton, Int.natCast_add] using ih
theorem K4 (t nx : Int) (is : List Int) (hi : ∀ x ∈ is, idB x = true) (hs : is.length ≤ 237) (post : List Int) (done : ∀ a : Int, Ev (fun k => page_Decode.l0 k L (is.length : Int) (is.length : Int) B a 0 4 t nx [] [] [] is) R) :
    ∀ (m acc : List Int) (pre : List Int), acc ++ m = is → B = pre ++ flat idY m ++ post → Ev (fun k => page_Decode.l0 k L (is.length : Int) (acc.length : Int) B (pre.length : Int) 0 4 t nx [] [] [] acc) R
  | [], acc, pre, e, _ => by
    rw [List.append_nil] at e
    subst e
    exact done _
  | x :: m, acc, pre, e, hB => by
    have hx := id_ok (hi x (by rw [← e]; simp))
    have le : acc.length + (m.length + 1) = is.length := by rw [← e]; simp
    have p4 : (256 : Int) ^ 4 = 4294967296 := by decide
    rw [flat_cons] at hB
    refine Ev.step (fun k => by rw [page_Decode.l0]) (Ev.iteT (by omega) (Ev.iteF (by decide) (Ev.iteF (by decide) (Ev.iteF (by decide) (Ev.iteT rfl ?_)))))
    rw [wrapInc (by omega)]
    refine Ev.bind (num_at' B hb hl (pre := pre) (n := x) 4 (q := flat idY m ++ post) (by rw [hB]; simp [idY]) (by omega) (by rw [p4]; omega) (by omega) (by omega)) (Ev.iteT (by omega) ?_)
    rw [wrap64_id (n := x) (by omega) (by omega)]
    have ih := K4 t nx is hi hs post done m (acc ++ [x]) (pre ++ idY x) (by rw [← e]; simp) (by rw [hB]; simp)
    simpa only [List.length_append, List.length_singleton, Int.natCast_add, idY, putB_length] using ih
end
theorem Decode_ev (p : Pg) (ok : OkP p) (hr : rightB p = true) : Ev (fun k => page_Decode.f k (sealB (pad (bodyY p)))) (p.k, p.t, p.n, p.items, p.kids, p.data, p.ids, 0) := by
  have r := right_ok hr
  have he := Encode_ev p ok
  have e0 : encE p = (sealB (pad (bodyY p)), 0) := if_pos hr
  rw [e0] at he
  have hbB := pad_bytes (body_bytes ok)
  have hpl := pad_len (bodyY p)
  have bl := body_len p
  have bu := r.used
  have hpe := pad_eq (b := bodyY p) (by omega)
  have fin : ∀ (n a : Int) (e : Int), Ev (fun k => page_Decode.l0 k (sealB (pad (bodyY p))) n n (pad (bodyY p)) a e p.k p.t p.n p.items p.kids p.data p.ids) (p.k, p.t, p.n, p.items, p.kids, p.data, p.ids, 0) := by
    intro n a e
    refine Ev.step (fun k => by rw [page_Decode.l0]) (Ev.iteF (by omega) (Ev.bind he (Ev.iteT rfl ?_)))
    exact Ev.bind0 (a := true) (by unfold bytes_Equal.f; rw [same_self]) (Ev.iteT rfl (Ev.now _))
  have ho := open_seal hbB
  generalize hL : sealB (pad (bodyY p)) = L at *
  have hLb : Bytes L := by rw [← hL]; exact seal_bytes hbB
  have hLl : L.length = 256 := by rw [← hL, seal_length, hpl]
  generalize hBB : pad (bodyY p) = B at *
  have p8 := pow256_8
  have p4 : (256 : Int) ^ 4 = 4294967296 := by decide
  have p2 : (256 : Int) ^ 2 = 65536 := by decide
  have p1 : (256 : Int) ^ 1 = 256 := by decide
  have rk := r.k
  have rn := r.n
  have rc := r.c
  have rt := ok.t
  have hB : B = headY p ++ (flat itemY p.items ++ (flat kidY p.kids ++ (p.data ++ flat idY p.ids))) ++ List.replicate (252 - (bodyY p).length) 0 := by rw [hpe]; simp [bodyY]
  generalize List.replicate (252 - (bodyY p).length) (0 : Int) = post at hB
  unfold page_Decode.f
  refine Ev.iteT (by omega) (Ev.bind (Ev.eq (Open_ev L hLb (by omega)) ho) (Ev.iteT rfl (Ev.bind0 (New_eq B (by omega)) ?_)))
  have n1 := num_at' B hbB (by omega) (pre := []) (n := p.k) 1 (q := putB p.t 8 ++ putB p.n 4 ++ putB (thingsE p).1 2 ++ (flat itemY p.items ++ (flat kidY p.kids ++ (p.data ++ flat idY p.ids))) ++ post) (by rw [hB]; simp [headY]) (by omega) (by rw [p1]; omega) (by omega) (by omega)
  refine Ev.bind n1 ?_
  have n2 := num_at' B hbB (by omega) (pre := putB p.k 1) (n := p.t) 8 (q := putB p.n 4 ++ putB (thingsE p).1 2 ++ (flat itemY p.items ++ (flat kidY p.kids ++ (p.data ++ flat idY p.ids))) ++ post) (by rw [hB]; simp [headY]) rt.1 (by rw [p8]; exact rt.2) (by omega) (by omega)
  simp only [List.length_append, putB_length, Int.natCast_add, List.length_nil] at n2 ⊢
  refine Ev.bind n2 ?_
  have n3 := num_at' B hbB (by omega) (pre := putB p.k 1 ++ putB p.t 8) (n := p.n) 4 (q := putB (thingsE p).1 2 ++ (flat itemY p.items ++ (flat kidY p.kids ++ (p.data ++ flat idY p.ids))) ++ post) (by rw [hB]; simp [headY]) (by omega) (by rw [p4]; omega) (by omega) (by omega)
  simp only [List.length_append, putB_length, Int.natCast_add] at n3 ⊢
  refine Ev.bind n3 ?_
  have n4 := num_at' B hbB (by omega) (pre := putB p.k 1 ++ putB p.t 8 ++ putB p.n 4) (n := (thingsE p).1) 2 (q := (flat itemY p.items ++ (flat kidY p.kids ++ (p.data ++ flat idY p.ids))) ++ post) (by rw [hB]; simp [headY]) (by omega) (by rw [p2]; omega) (by omega) (by omega)
  simp only [List.length_append, putB_length, Int.natCast_add] at n4 ⊢
  refine Ev.bind n4 ?_
  rw [wrap64_id (n := p.k) (by omega) (by omega), wrap64_id (n := p.n) (by omega) (by omega), wrap64_id (n := (thingsE p).1) (by omega) (by omega)]
  rw [show mn (thingsE p).1 237 = (thingsE p).1 from if_neg (by omega)]
  have hh := head_len p
  rcases things_1 r.one with ⟨k1, z1, z2, z3, zn⟩ | ⟨k1, z1, z2, z3, zn⟩ | ⟨k1, z1, z2, z3, zn⟩ | ⟨k1, z1, z2, z3, zn⟩
  · simp only [k1, z1, z2, z3, zn] at fin ⊢
    have := K1 B hbB (by omega) L (1, p.t, p.n, p.items, [], [], [], 0) p.t p.n p.items r.items (by omega) post (fun a => fin _ a 0) p.items [] (headY p) rfl (by rw [hB]; simp [z1, z2, z3, flat_nil])
    rw [hh] at this
    exact this
  · simp only [k1, z1, z2, z3, zn] at fin ⊢
    have := K2 B hbB (by omega) L (2, p.t, p.n, [], p.kids, [], [], 0) p.t p.n p.kids r.kids (by omega) post (fun a => fin _ a 0) p.kids [] (headY p) rfl (by rw [hB]; simp [z1, z2, z3, flat_nil])
    rw [hh] at this
    exact this
  · simp only [k1, z1, z2, z3, zn] at fin ⊢
    have := K3 B hbB (by omega) L (3, p.t, p.n, [], [], p.data, [], 0) p.t p.n p.data (by omega) post (fun a => fin _ a 0) p.data [] (headY p) rfl (by rw [hB]; simp [z1, z2, z3, flat_nil])
    rw [hh] at this
    exact this
  · simp only [k1, z1, z2, z3, zn] at fin ⊢
    have := K4 B hbB (by omega) L (4, p.t, p.n, [], [], [], p.ids, 0) p.t p.n p.ids r.ids (by omega) post (fun a => fin _ a 0) p.ids [] (headY p) rfl (by rw [hB]; simp [z1, z2, z3, flat_nil])
    rw [hh] at this
    exact this
end Go.Proofs.Ytandeendeoempaa.PagD
