-- Written by wip/printx.py, a program of this work over the kit's print, for this claim.
import Derived.Test.YtfkihcdonddcoaaPRx0
import Derived.Test.YtfkihcdonddcoaaPRx3
import Derived.Test.YtfkihcdonddcoaaPRx4
import Derived.Test.YtfkihcdonddcoaaPRx5
namespace Go.Proofs.Ytfkihcdonddcoaa.PR
open Go.RowKit Go.Proofs.YtfkihcdonddcoaaW.PrintWords Go.Proofs.YtfkihcdonddcoaaW.PrintLast Go.Proofs.YtfkihcdonddcoaaW.PrintMore
attribute [local go_sem] max2_int min2_int max_two min_two max_three min_three max_four min_four   -- for this text's walks alone
attribute [local go_sem] Ext.pick_u8 Ext.pick_u32 Ext.pick_u64
set_option linter.unusedVariables false
set_option linter.unusedSimpArgs false

theorem meta_Encode.put_calls (k : Nat) (n size : Int) (g : Nat) (v : Value) (b r1 : List Int) (r2 : Int) (w0 w : World) (hB : Below w0.heap.size w0 w) (hb : w.heap[g]? = some (.cells #[v] 26 (0, 0))) (hg : w0.heap.size ≤ g) (ho : Kd.R (Kd.int .u8) 5 w w0.heap.size (fun _ => True) v b) (h : octets_Put.f k n size = some (r1, r2)) (hl : b.length + r1.length < 140737488355328) :
    Calls Try.prog 22 #[.int .u64 n, .int .i64 size, .pointer (some ⟨g, 0, none⟩)] w fun e w' => ∃ v', e = .returned (.tuple #[]) ∧ w'.heap[g]? = some (.cells #[v'] 26 (0, 0)) ∧ Kd.R (Kd.int .u8) 5 w' w0.heap.size (fun _ => True) v' (b ++ r1) ∧ Below w0.heap.size w0 w' ∧ w.heap.size ≤ w'.heap.size ∧ ∀ j, j < w.heap.size → j ≠ g → some j ≠ v.ownBlock → w'.heap[j]? = w.heap[j]? := by
  obtain ⟨A, c, rfl⟩ := Kd.R_slice ho
  have HO := Aside0.mk ho
  have HB := Aside0.mk hB
  have HG := Aside0.mk hb
  have H := Aside0.mk h
  have HGE := Aside0.mk hg
  have HL := Aside0.mk hl
  have HN := Aside0.mk (Kd.R_ne ho hb (by decide))
  clear ho hB hb h hg hl
  go_enter Try.func22, Try.ntmps22
  go_wp2_with (first
    | (go_at_call 23; (with_reducible refine (octets_Put.calls k n size r1 r2 _ H.out).mono ?_); rintro e w1 ⟨v1, rfl, ho1, hb1⟩; obtain ⟨A1, c1, rfl⟩ := Kd.R_slice ho1; have HO1 := Aside0.mk ho1; have HB1 := Aside0.mk hb1; clear ho1 hb1; have hc := (blk_cell (blk_below HG.out HB1.out) 0).trans rfl)
    | ((with_reducible refine gate_builtin (b := .append) (xs := #[.tmp 13, .tmp 14]) rfl ?_); at_builtin; refine Kd.R_append_rows (Kd.int .u8) (w0 := w0) w0.heap.size rfl (.tmp 13) (.tmp 14) 26 5 (.int .u8 0) 1 rfl Try.underlying26 info5 rfl (by decide) (by omega) (.slice A b.length c) b r1 A1 r1.length c1 (fun _ => True) (fun _ => False) rfl rfl ?aO ?aR (fun _ _ h => h) (fun _ h => h.elim) ?aF ?aB ?aS ?aL ?_; (case aR => exact (Kd.R_reads' HO1.out).2.2); (case aB => exact below_step HB.out HB1.out); (case aF => exact (fun _ _ => trivial)); (case aO => exact Kd.R_below HO.out HB1.out); (case aS => exact below_size (below_step HB.out HB1.out)); (case aL => have := HL.out; omega); intro v2 w2 ho2 hb2 hg2 hat2; obtain ⟨A2, c2, rfl⟩ := Kd.R_slice ho2; have HO2 := Aside0.mk ho2; have HB2 := Aside0.mk hb2; have HG2 := Aside0.mk hg2; have hG2 := blk_grown (blk_below HG.out HB1.out) hg2 HN.out; have hf := blk_frozen hG2 0; have hc2 := (blk_cell hG2 0).trans rfl; have HGG := Aside0.mk hG2; clear ho2 hb2 hg2 hat2 hG2))
  (first | go_ret | go_end0)
  have e : b.length + r1.length = (b ++ r1).length := by simp
  rw [e]
  refine ⟨_, rfl, blk_put HGG.out 0 _ rfl, Kd.R_mono (Kd.R_far (Kd.R_types HO2.out HGG.out (by decide)) (fun _ hk => hk.2) _) (fun _ _ => trivial), below_set HB2.out HGE.out, ?_, ?_⟩
  · have h1 := HB1.out.size
    have h2 := HG2.out.size
    simp [World.setCell]
    omega
  · intro j hj hg hr
    have h1 := HB1.out.size
    rw [Below.heap_setCell _ _ _ _ (by exact hg), HG2.out.block j (by omega) hr, HB1.out.block j hj]
theorem meta_Encode.cells4 {W : World} {g : Nat} {a b c d : Value} {t : TypeId} (h : W.heap[g]? = some (.cells #[a, b, c, d] t (0, 0))) : W.cell? ⟨g, 0, none⟩ = some a ∧ W.cell? ⟨g, 1, none⟩ = some b ∧ W.cell? ⟨g, 2, none⟩ = some c ∧ W.cell? ⟨g, 3, none⟩ = some d :=
  ⟨(blk_cell h 0).trans rfl, (blk_cell h 1).trans rfl, (blk_cell h 2).trans rfl, (blk_cell h 3).trans rfl⟩
def metaB (p1 p2 p3 p4 : List Int) : List Int := [9] ++ p1 ++ [84, 69, 82, 82, 1] ++ p2 ++ p3 ++ p4
def metaZ (p1 p2 p3 p4 : List Int) : List Int := metaB p1 p2 p3 p4 ++ List.replicate (244 - (metaB p1 p2 p3 p4).length) 0 ++ p1
def meta_Encode.f (k : Nat) (a0_0 : Int) (a0_1 : Int) (a0_2 : Int) (a0_3 : Int) : Option (List Int × Int) :=
  (meta_Right.f k a0_0 a0_1 a0_2 a0_3).bind fun t => if t = true then
    ((octets_Put.f k a0_0 8).bind fun p1 => (octets_Put.f k (IntKind.u64.wrap a0_1) 4).bind fun p2 => (octets_Put.f k (IntKind.u64.wrap a0_2) 4).bind fun p3 => (octets_Put.f k (IntKind.u64.wrap a0_3) 4).bind fun p4 =>
      if p1.1.length ≤ 8 then (if p2.1.length ≤ 8 then (if p3.1.length ≤ 8 then (if p4.1.length ≤ 8 then ((sum_Seal.f k (metaZ p1.1 p2.1 p3.1 p4.1)).bind fun s => some (s, 0)) else none) else none) else none) else none)
  else some ([], 4)
theorem meta_Encode.mono : ∀ a0 a1 a2 a3 k, LeO (meta_Encode.f k a0 a1 a2 a3) (meta_Encode.f (k + 1) a0 a1 a2 a3) := by
  intro a0 a1 a2 a3 k
  unfold meta_Encode.f
  repeat' first
    | (with_reducible exact meta_Right.mono _ _ _ _ _)
    | (with_reducible exact octets_Put.mono _ _ _)
    | (with_reducible exact sum_Seal.mono _ _)
    | (with_reducible exact LeO.refl _)
    | (with_reducible exact LeO.none _)
    | (with_reducible refine LeO.ite ?_ ?_)
    | (with_reducible refine LeO.bind ?_ (fun _ => ?_))
    | exact meta_Right.mono _ _ _ _ _
    | exact octets_Put.mono _ _ _
    | exact sum_Seal.mono _ _
    | exact LeO.none _
    | refine LeO.ite ?_ ?_
    | refine LeO.bind ?_ (fun _ => ?_)
set_option maxHeartbeats 8000000 in
set_option maxRecDepth 100000 in
theorem meta_Encode.calls (k : Nat) (a0_0 : Int) (a0_1 : Int) (a0_2 : Int) (a0_3 : Int) (r1 : List Int) (r2 : Int) (w : World) (h : meta_Encode.f k a0_0 a0_1 a0_2 a0_3 = some (r1, r2)) :
    Calls Try.prog 10 #[.agg #[.int .u64 a0_0, .int .i64 a0_1, .int .i64 a0_2, .int .i64 a0_3]] w fun e w' => ∃ v0_ : Value, e = .returned (.tuple #[v0_, .int .i64 r2]) ∧ Kd.R (Kd.int .u8) 5 w' w.heap.size (fun _ => True) v0_ r1 ∧ Below w.heap.size w w' := by
  have hu := Try.underlying24
  unfold meta_Encode.f at h
  replace h := Option.bind_eq_some_iff.mp h
  obtain ⟨t, ht, h⟩ := h
  have HT := Aside0.mk ht
  clear ht
  by_cases ct : t = true
  · subst ct
    rw [if_pos rfl] at h
    replace h := Option.bind_eq_some_iff.mp h
    obtain ⟨⟨p1, q1⟩, h1, h⟩ := h
    replace h := Option.bind_eq_some_iff.mp h
    obtain ⟨⟨p2, q2⟩, h2, h⟩ := h
    replace h := Option.bind_eq_some_iff.mp h
    obtain ⟨⟨p3, q3⟩, h3, h⟩ := h
    replace h := Option.bind_eq_some_iff.mp h
    obtain ⟨⟨p4, q4⟩, h4, h⟩ := h
    dsimp only at h
    by_cases c1 : p1.length ≤ 8
    case neg => rw [if_neg c1] at h; cases h
    rw [if_pos c1] at h
    by_cases c2 : p2.length ≤ 8
    case neg => rw [if_neg c2] at h; cases h
    rw [if_pos c2] at h
    by_cases c3 : p3.length ≤ 8
    case neg => rw [if_neg c3] at h; cases h
    rw [if_pos c3] at h
    by_cases c4 : p4.length ≤ 8
    case neg => rw [if_neg c4] at h; cases h
    rw [if_pos c4] at h
    replace h := Option.bind_eq_some_iff.mp h
    obtain ⟨s, hs, h⟩ := h
    simp only [Option.some.injEq, Prod.mk.injEq] at h
    obtain ⟨rfl, rfl⟩ := h
    have HS := Aside0.mk hs
    clear hs
    have H1 := Aside0.mk h1
    have C1 := Aside0.mk c1
    clear h1 c1
    have H2 := Aside0.mk h2
    have C2 := Aside0.mk c2
    clear h2 c2
    have H3 := Aside0.mk h3
    have C3 := Aside0.mk c3
    clear h3 c3
    have H4 := Aside0.mk h4
    have C4 := Aside0.mk c4
    clear h4 c4
    go_enter Try.func10, Try.ntmps10
    go_wp2_with ((with_reducible refine gate_dst (N := 1) rfl ?_); refine box_event ?hg (N := 1) ?hd (cs := #[.int .u64 a0_0, .int .i64 a0_1, .int .i64 a0_2, .int .i64 a0_3]) (t := 24) ?hr ?_; (case hd => rfl); (case hg => rfl); (case hr => first | (go_simp; done) | (go_simp; rfl)); intro g1 hg w1 hbox hb; have HM1 := Aside0.mk hbox; have HB1 := Aside0.mk hb; obtain ⟨m0, m1, m2, m3⟩ := meta_Encode.cells4 hbox; clear hbox hb hg)
    (with_reducible refine (meta_Right.calls k a0_0 a0_1 a0_2 a0_3 true _ HT.out).mono ?_)
    rintro e w2 ⟨rfl, hb⟩
    have HM2 := Aside0.mk (blk_below HM1.out hb)
    have HB2 := Aside0.mk (below_step HB1.out hb)
    clear hb m0 m1 m2 m3 HM1 HB1
    obtain ⟨m0, m1, m2, m3⟩ := meta_Encode.cells4 HM2.out
    go_wp2_with (first
      | ((with_reducible refine gate_dst (N := 9) rfl ?_); refine Kd.R_lit (Kd.int .u8) _ 5 ?hg (N := 9) ?hd (xs := ([9] : List Int)) (inner := [.int .u8 9]) (ok := fun _ => True) (okp := fun _ => True) ?hr ?hp (fun _ hk => hk) trivial (Below.refl _ _) (Nat.le_refl _) (by simp) ?_; (case hd => rfl); (case hg => rfl); (case hr => first | (go_simp; done) | (go_simp; rfl)); (case hp => exact (Reps.one (show Kd.M (Kd.int .u8) _ _ _ 9 [.int .u8 9] from rfl) (Reps.none _ _))); intro v3 w3 ho hb hg_ hnew_; obtain ⟨y3, hy3⟩ : ∃ y : List Int, y = [9] := ⟨_, rfl⟩; rw [← hy3] at ho; have HY3 := Aside0.mk hy3; clear hy3; obtain ⟨A3, c3, rfl⟩ := Kd.R_slice ho; have HO3 := Aside0.mk (Kd.R_lower ho (below_size HB2.out)); have HB3 := Aside0.mk (below_step HB2.out hb); have HM3 := Aside0.mk (blk_below HM2.out hb); clear ho hb hg_ hnew_)
      | ((with_reducible refine gate_dst (N := 4) rfl ?_); refine box_event ?hg (N := 4) ?hd (cs := #[.slice none 0 0]) (t := 26) ?hr ?_; (case hd => rfl); (case hg => rfl); (case hr => first | (go_simp; done) | (go_simp; rfl)); intro g2 hg w4 hbox hb; have HX4 := Aside0.mk hbox; have HO4 := Aside0.mk (Kd.R_below HO3.out hb); have HM4 := Aside0.mk (blk_below HM3.out hb); have HB4 := Aside0.mk (below_step HB3.out hb); have G2 := Aside0.mk (by rw [hg]; exact (below_size HB3.out) : w.heap.size ≤ g2); have hne : ¬ g1 = g2 := blk_ne HM4.out HX4.out (by decide); have hne' : ¬ g2 = g1 := fun e => hne e.symm; have x0 := (blk_cell hbox 0).trans rfl; have f0 := blk_frozen hbox 0; clear m0 m1 m2 m3; obtain ⟨m0, m1, m2, m3⟩ := meta_Encode.cells4 HM4.out; clear hbox hb hg))
    have L4 := Aside0.mk (show y3.length ≤ 1 by rw [HY3.out]; simp)
    have HX5 := Aside0.mk (blk_put (cs' := #[.slice A3 y3.length c3]) HX4.out 0 (.slice A3 y3.length c3) rfl)
    have HM5 := Aside0.mk (blk_far HM4.out (p := ⟨g2, 0, none⟩) hne (.slice A3 y3.length c3))
    have HO5 := Aside0.mk (Kd.R_mono (Kd.R_far (p := ⟨g2, 0, none⟩) (Kd.R_types HO4.out HX4.out (by decide)) (fun _ hk => hk.2) (.slice A3 y3.length c3)) (fun _ _ => trivial : ∀ _, _ → True))
    have HB5 := Aside0.mk (below_set (g := g2) (j := 0) (v := .slice A3 y3.length c3) HB4.out G2.out)
    (with_reducible refine (meta_Encode.put_calls k (a0_0) 8 g2 _ y3 p1 q1 w _ HB5.out HX5.out G2.out HO5.out H1.out (by have := L4.out; have := C1.out; omega)).mono ?_)
    rintro e w6 ⟨v6, rfl, hx, ho, hb, hz, hk⟩
    obtain ⟨y6, hy⟩ : ∃ y : List Int, y = y3 ++ p1 := ⟨_, rfl⟩
    rw [← hy] at ho
    have HY6 := Aside0.mk hy
    have L6 := Aside0.mk (show y6.length ≤ 9 by rw [hy, List.length_append]; have := L4.out; have := C1.out; omega)
    clear hy
    obtain ⟨A6, c6, rfl⟩ := Kd.R_slice ho
    have HX6 := Aside0.mk hx
    have HO6 := Aside0.mk ho
    have HB6 := Aside0.mk hb
    have HM6 := Aside0.mk ((hk g1 (blk_lt HM5.out) hne (Kd.R_ne HO5.out HM5.out (by decide))).trans HM5.out)
    clear hx ho hb hz hk
    (try clear m0 m1 m2 m3)
    (try clear x0)
    (try clear f0)
    obtain ⟨m0, m1, m2, m3⟩ := meta_Encode.cells4 HM6.out
    have x0 := (blk_cell HX6.out 0).trans rfl
    have f0 := blk_frozen HX6.out 0
    go_wp2_with (at_builtin; refine print_append_str (w0 := w) w.heap.size rfl (.tmp 15) (.const (.string ⟨#[84, 69, 82, 82, 1]⟩)) 26 9 5 rfl Try.underlying26 Try.underlying9 info5 (.slice A6 y6.length c6) y6 ⟨#[84, 69, 82, 82, 1]⟩ rfl rfl ?aO ?aB ?aS ?aL ?_; (case aO => exact Kd.own_of_R HO6.out); (case aB => exact HB6.out); (case aS => exact below_size HB6.out); (case aL => have := L6.out; have hsz_ : (⟨#[84, 69, 82, 82, 1]⟩ : ByteArray).size = 5 := rfl; omega); intro v7 w7 ho0 hb hg; have ho := Kd.R_of_own (h1 := fun _ => rfl) (ok := fun _ => True) ho0 (fun _ _ => trivial); clear ho0; change Kd.R (Kd.int .u8) 5 w7 w.heap.size (fun _ => True) v7 (y6 ++ [84, 69, 82, 82, 1]) at ho; obtain ⟨y7, hy⟩ : ∃ y : List Int, y = y6 ++ [84, 69, 82, 82, 1] := ⟨_, rfl⟩; rw [← hy] at ho; have HY7 := Aside0.mk hy; have L7 := Aside0.mk (show y7.length ≤ 14 by rw [hy, List.length_append]; have := L6.out; simp; omega); clear hy; obtain ⟨A7, c7, rfl⟩ := Kd.R_slice ho; have HO7 := Aside0.mk ho; have HB7 := Aside0.mk hb; have HX7 := Aside0.mk (blk_grown HX6.out hg (Kd.R_ne HO6.out HX6.out (by decide))); have HM7 := Aside0.mk (blk_grown HM6.out hg (Kd.R_ne HO6.out HM6.out (by decide))); clear ho hb hg; clear m0 m1 m2 m3 x0 f0; obtain ⟨m0, m1, m2, m3⟩ := meta_Encode.cells4 HM7.out; have x0 := (blk_cell HX7.out 0).trans rfl; have f0 := blk_frozen HX7.out 0)
    have HX8 := Aside0.mk (blk_put (cs' := #[.slice A7 y7.length c7]) HX7.out 0 (.slice A7 y7.length c7) rfl)
    have HM8 := Aside0.mk (blk_far HM7.out (p := ⟨g2, 0, none⟩) hne (.slice A7 y7.length c7))
    have HO8 := Aside0.mk (Kd.R_mono (Kd.R_far (p := ⟨g2, 0, none⟩) (Kd.R_types HO7.out HX7.out (by decide)) (fun _ hk => hk.2) (.slice A7 y7.length c7)) (fun _ _ => trivial : ∀ _, _ → True))
    have HB8 := Aside0.mk (below_set (g := g2) (j := 0) (v := .slice A7 y7.length c7) HB7.out G2.out)
    (with_reducible refine (meta_Encode.put_calls k (IntKind.u64.wrap a0_1) 4 g2 _ y7 p2 q2 w _ HB8.out HX8.out G2.out HO8.out H2.out (by have := L7.out; have := C2.out; omega)).mono ?_)
    rintro e w9 ⟨v9, rfl, hx, ho, hb, hz, hk⟩
    obtain ⟨y9, hy⟩ : ∃ y : List Int, y = y7 ++ p2 := ⟨_, rfl⟩
    rw [← hy] at ho
    have HY9 := Aside0.mk hy
    have L9 := Aside0.mk (show y9.length ≤ 22 by rw [hy, List.length_append]; have := L7.out; have := C2.out; omega)
    clear hy
    obtain ⟨A9, c9, rfl⟩ := Kd.R_slice ho
    have HX9 := Aside0.mk hx
    have HO9 := Aside0.mk ho
    have HB9 := Aside0.mk hb
    have HM9 := Aside0.mk ((hk g1 (blk_lt HM8.out) hne (Kd.R_ne HO8.out HM8.out (by decide))).trans HM8.out)
    clear hx ho hb hz hk
    (try clear m0 m1 m2 m3)
    (try clear x0)
    (try clear f0)
    obtain ⟨m0, m1, m2, m3⟩ := meta_Encode.cells4 HM9.out
    have x0 := (blk_cell HX9.out 0).trans rfl
    have f0 := blk_frozen HX9.out 0
    go_wp2_with fail
    (with_reducible refine (meta_Encode.put_calls k (IntKind.u64.wrap a0_2) 4 g2 _ y9 p3 q3 w _ HB9.out HX9.out G2.out HO9.out H3.out (by have := L9.out; have := C3.out; omega)).mono ?_)
    rintro e w10 ⟨v10, rfl, hx, ho, hb, hz, hk⟩
    obtain ⟨y10, hy⟩ : ∃ y : List Int, y = y9 ++ p3 := ⟨_, rfl⟩
    rw [← hy] at ho
    have HY10 := Aside0.mk hy
    have L10 := Aside0.mk (show y10.length ≤ 30 by rw [hy, List.length_append]; have := L9.out; have := C3.out; omega)
    clear hy
    obtain ⟨A10, c10, rfl⟩ := Kd.R_slice ho
    have HX10 := Aside0.mk hx
    have HO10 := Aside0.mk ho
    have HB10 := Aside0.mk hb
    have HM10 := Aside0.mk ((hk g1 (blk_lt HM9.out) hne (Kd.R_ne HO9.out HM9.out (by decide))).trans HM9.out)
    clear hx ho hb hz hk
    (try clear m0 m1 m2 m3)
    (try clear x0)
    (try clear f0)
    obtain ⟨m0, m1, m2, m3⟩ := meta_Encode.cells4 HM10.out
    have x0 := (blk_cell HX10.out 0).trans rfl
    have f0 := blk_frozen HX10.out 0
    go_wp2_with fail
    (with_reducible refine (meta_Encode.put_calls k (IntKind.u64.wrap a0_3) 4 g2 _ y10 p4 q4 w _ HB10.out HX10.out G2.out HO10.out H4.out (by have := L10.out; have := C4.out; omega)).mono ?_)
    rintro e w11 ⟨v11, rfl, hx, ho, hb, hz, hk⟩
    obtain ⟨y11, hy⟩ : ∃ y : List Int, y = y10 ++ p4 := ⟨_, rfl⟩
    rw [← hy] at ho
    have HY11 := Aside0.mk hy
    have L11 := Aside0.mk (show y11.length ≤ 38 by rw [hy, List.length_append]; have := L10.out; have := C4.out; omega)
    clear hy
    obtain ⟨A11, c11, rfl⟩ := Kd.R_slice ho
    have HX11 := Aside0.mk hx
    have HO11 := Aside0.mk ho
    have HB11 := Aside0.mk hb
    have HM11 := Aside0.mk ((hk g1 (blk_lt HM10.out) hne (Kd.R_ne HO10.out HM10.out (by decide))).trans HM10.out)
    clear hx ho hb hz hk
    (try clear m0 m1 m2 m3)
    (try clear x0)
    (try clear f0)
    obtain ⟨m0, m1, m2, m3⟩ := meta_Encode.cells4 HM11.out
    have x0 := (blk_cell HX11.out 0).trans rfl
    have f0 := blk_frozen HX11.out 0
    have hsub : wrap64 (244 - (y11.length : Int)) = ((244 - y11.length : Nat) : Int) := by have := L11.out; unfold wrap64; omega
    go_wp2_with (at_builtin; refine Kd.R_append_zeros (Kd.int .u8) (w0 := w) w.heap.size rfl (.tmp 32) (.tmp 35) 26 3 5 (.int .u8 0) 1 rfl Try.underlying26 Try.underlying3 info5 rfl (by decide) (by omega) (.slice A11 y11.length c11) y11 0 (wrap64 (244 - (y11.length : Int))) (fun _ => True) rfl rfl rfl ?aF ?aO (by rw [hsub]; omega) ?aB ?aS ?aL ?_; (case aF => exact (fun _ _ => trivial)); (case aO => exact HO11.out); (case aB => exact HB11.out); (case aS => exact below_size HB11.out); (case aL => rw [hsub]; have := L11.out; omega); intro v12 w12 ho hb hg hat; rw [hsub, Int.toNat_natCast] at ho; obtain ⟨y12, hy⟩ : ∃ y : List Int, y = y11 ++ List.replicate (244 - y11.length) 0 := ⟨_, rfl⟩; rw [← hy] at ho; have HY12 := Aside0.mk hy; have L12 := Aside0.mk (show y12.length ≤ 244 by rw [hy, List.length_append, List.length_replicate]; have := L11.out; omega); clear hy; obtain ⟨A12, c12, rfl⟩ := Kd.R_slice ho; have HO12 := Aside0.mk ho; have HB12 := Aside0.mk hb; have HX12 := Aside0.mk (blk_grown HX11.out hg (Kd.R_ne HO11.out HX11.out (by decide))); have HM12 := Aside0.mk (blk_grown HM11.out hg (Kd.R_ne HO11.out HM11.out (by decide))); clear ho hb hg hat hsub; clear m0 m1 m2 m3 x0 f0; obtain ⟨m0, m1, m2, m3⟩ := meta_Encode.cells4 HM12.out; have x0 := (blk_cell HX12.out 0).trans rfl; have f0 := blk_frozen HX12.out 0)
    have HX13 := Aside0.mk (blk_put (cs' := #[.slice A12 y12.length c12]) HX12.out 0 (.slice A12 y12.length c12) rfl)
    have HM13 := Aside0.mk (blk_far HM12.out (p := ⟨g2, 0, none⟩) hne (.slice A12 y12.length c12))
    have HO13 := Aside0.mk (Kd.R_mono (Kd.R_far (p := ⟨g2, 0, none⟩) (Kd.R_types HO12.out HX12.out (by decide)) (fun _ hk => hk.2) (.slice A12 y12.length c12)) (fun _ _ => trivial : ∀ _, _ → True))
    have HB13 := Aside0.mk (below_set (g := g2) (j := 0) (v := .slice A12 y12.length c12) HB12.out G2.out)
    (with_reducible refine (meta_Encode.put_calls k (a0_0) 8 g2 _ y12 p1 q1 w _ HB13.out HX13.out G2.out HO13.out H1.out (by have := L12.out; have := C1.out; omega)).mono ?_)
    rintro e w14 ⟨v14, rfl, hx, ho, hb, hz, hk⟩
    obtain ⟨y14, hy⟩ : ∃ y : List Int, y = y12 ++ p1 := ⟨_, rfl⟩
    rw [← hy] at ho
    have HY14 := Aside0.mk hy
    have L14 := Aside0.mk (show y14.length ≤ 252 by rw [hy, List.length_append]; have := L12.out; have := C1.out; omega)
    clear hy
    obtain ⟨A14, c14, rfl⟩ := Kd.R_slice ho
    have HX14 := Aside0.mk hx
    have HO14 := Aside0.mk ho
    have HB14 := Aside0.mk hb
    have HM14 := Aside0.mk ((hk g1 (blk_lt HM13.out) hne (Kd.R_ne HO13.out HM13.out (by decide))).trans HM13.out)
    clear hx ho hb hz hk
    (try clear m0 m1 m2 m3)
    (try clear x0)
    (try clear f0)
    obtain ⟨m0, m1, m2, m3⟩ := meta_Encode.cells4 HM14.out
    have x0 := (blk_cell HX14.out 0).trans rfl
    have f0 := blk_frozen HX14.out 0
    go_wp2_with fail
    have hz : y14 = metaZ p1 p2 p3 p4 := by rw [HY14.out, HY12.out, HY11.out, HY10.out, HY9.out, HY7.out, HY6.out, HY3.out]; rfl
    have HS2 := Aside0.mk (show sum_Seal.f k y14 = some s by rw [hz]; exact HS.out)
    clear hz
    (with_reducible refine (sum_Seal.calls k (fun k_ => some k_ = (.slice A14 y14.length c14 : Value).ownBlock) _ _ y14 s _ ?side1 HS2.out).mono ?_)
    case side1 => exact Kd.R_V (Kd.R_tight rfl (HO14.out))
    rintro e w15 ⟨v15, rfl, ho, hb⟩
    have HO15 := Aside0.mk (Kd.R_mono (Kd.R_lower ho (below_size HB14.out)) (fun _ _ => trivial : ∀ _, _ → True))
    have HB15 := Aside0.mk (below_step HB14.out hb)
    clear ho hb
    obtain ⟨A15, c15, rfl⟩ := Kd.R_slice HO15.out
    go_wp2
    go_ret2
    exact ⟨_, rfl, HO15.out, HB15.out⟩
  · replace ct := Bool.eq_false_iff.mpr ct
    subst ct
    rw [if_neg (by decide)] at h
    simp only [Option.some.injEq, Prod.mk.injEq] at h
    obtain ⟨rfl, rfl⟩ := h
    go_enter Try.func10, Try.ntmps10
    go_wp2_with ((with_reducible refine gate_dst (N := 1) rfl ?_); refine box_event ?hg (N := 1) ?hd (cs := #[.int .u64 a0_0, .int .i64 a0_1, .int .i64 a0_2, .int .i64 a0_3]) (t := 24) ?hr ?_; (case hd => rfl); (case hg => rfl); (case hr => first | (go_simp; done) | (go_simp; rfl)); intro g1 hg w1 hbox hb; have HM1 := Aside0.mk hbox; have HB1 := Aside0.mk hb; obtain ⟨m0, m1, m2, m3⟩ := meta_Encode.cells4 hbox; clear hbox hb hg)
    (with_reducible refine (meta_Right.calls k a0_0 a0_1 a0_2 a0_3 false _ HT.out).mono ?_)
    rintro e w2 ⟨rfl, hb⟩
    have HM2 := Aside0.mk (blk_below HM1.out hb)
    have HB2 := Aside0.mk (below_step HB1.out hb)
    clear hb m0 m1 m2 m3 HM1 HB1
    obtain ⟨m0, m1, m2, m3⟩ := meta_Encode.cells4 HM2.out
    go_wp2
    go_ret2
    exact ⟨_, rfl, Kd.R_nil _ _ _ _ _, HB2.out⟩

end Go.Proofs.Ytfkihcdonddcoaa.PR
