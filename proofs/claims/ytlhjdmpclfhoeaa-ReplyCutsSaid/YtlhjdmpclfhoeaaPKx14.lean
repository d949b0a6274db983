-- Written by wip/printx.py, a program of this work over the kit's print, for this claim.
import Derived.Test.YtlhjdmpclfhoeaaPKx0
import Derived.Test.YtlhjdmpclfhoeaaPKx10
import Derived.Test.YtlhjdmpclfhoeaaPKx11
import Derived.Test.YtlhjdmpclfhoeaaPKx13
namespace Go.Proofs.Ytlhjdmpclfhoeaa.PK
open Go.RowKit Go.Proofs.YtlhjdmpclfhoeaaW.PrintWords Go.Proofs.YtlhjdmpclfhoeaaW.PrintLast Go.Proofs.YtlhjdmpclfhoeaaW.PrintMore
attribute [local go_sem] max2_int min2_int max_two min_two max_three min_three max_four min_four   -- for this text's walks alone
attribute [local go_sem] Ext.pick_u8 Ext.pick_u32 Ext.pick_u64
set_option linter.unusedVariables false
set_option linter.unusedSimpArgs false



/-! ### octets_Reader_Text: function 65 -/
def octets_Reader_Text.j0 : Nat → Int → Int → Bool → List Int → Int → Int → Option (List Int × Int × Int)
 | 0, _, _, _, _, _, _ => none
 | k + 1, x5, x6, x26, x1000, x1001, x1002 => if x26 = true then ((octets_Reader_Bytes.f x1000 x1001 5 x6).bind fun bt314 => (if bt314.2.2 = 0 then (some (bt314.1, bt314.2.1, bt314.2.2)) else (some (bt314.1, x5, bt314.2.2)))) else ((octets_Reader_Bytes.f x1000 x1001 x1002 x6).bind fun bt319 => (if bt319.2.2 = 0 then (some (bt319.1, bt319.2.1, bt319.2.2)) else (some (bt319.1, x5, bt319.2.2))))
def octets_Reader_Text.f (k : Nat) (s0_0 : List Int) (s0_1 : Int) (s0_2 : Int) (a1 : Int) : Option (List Int × Int × Int) := (octets_Reader_over.f s0_0 s0_1 s0_2).bind fun bt308 => (if bt308.1 = true then (some (([] : List Int), bt308.2.1, bt308.2.2)) else ((octets_Reader_Num.f k s0_0 bt308.2.1 bt308.2.2 2).bind fun bt311 => (if bt311.2.2 = 0 then (octets_Reader_Text.j0 k bt308.2.1 (wrap64 (bt311.1)) (decide ((wrap64 (bt311.1)) > a1)) s0_0 bt311.2.1 bt311.2.2) else (octets_Reader_Text.j0 k bt308.2.1 (wrap64 (bt311.1)) false s0_0 bt311.2.1 bt311.2.2))))
theorem octets_Reader_Text.mono_l : ∀ k, (∀ y0 y1 y2 y3 y4 y5, LeO (octets_Reader_Text.j0 k y0 y1 y2 y3 y4 y5) (octets_Reader_Text.j0 (k + 1) y0 y1 y2 y3 y4 y5))
 | 0 => fun _ _ _ _ _ _ r h => by simp [octets_Reader_Text.j0] at h
 | k + 1 => by
  have ih0 := octets_Reader_Text.mono_l k
  ·
   intro y0 y1 y2 y3 y4 y5
   unfold octets_Reader_Text.j0
   repeat' first
   | (with_reducible exact ih0 _ _ _ _ _ _)
   | (with_reducible exact octets_Reader_Num.mono _ _ _ _ _)
   | (with_reducible exact LeO.refl _)
   | (with_reducible exact LeO.none _)
   | (with_reducible refine LeO.ite ?_ ?_)
   | (with_reducible refine LeO.bind ?_ (fun _ => ?_))
   | exact ih0 _ _ _ _ _ _
   | exact octets_Reader_Num.mono _ _ _ _ _
   | exact LeO.none _
   | refine LeO.ite ?_ ?_
   | refine LeO.bind ?_ (fun _ => ?_)
theorem octets_Reader_Text.mono : ∀ a0 a1 a2 a3 k, LeO (octets_Reader_Text.f k a0 a1 a2 a3) (octets_Reader_Text.f (k + 1) a0 a1 a2 a3) := by
 intro a0 a1 a2 a3 k
 have ih0 := octets_Reader_Text.mono_l k; unfold octets_Reader_Text.f
 repeat' first
   | (with_reducible exact ih0 _ _ _ _ _ _)
   | (with_reducible exact octets_Reader_Num.mono _ _ _ _ _)
   | (with_reducible exact LeO.refl _)
   | (with_reducible exact LeO.none _)
   | (with_reducible refine LeO.ite ?_ ?_)
   | (with_reducible refine LeO.bind ?_ (fun _ => ?_))
   | exact ih0 _ _ _ _ _ _
   | exact octets_Reader_Num.mono _ _ _ _ _
   | exact LeO.none _
   | refine LeO.ite ?_ ?_
   | refine LeO.bind ?_ (fun _ => ?_)
set_option maxHeartbeats 8000000 in
set_option maxRecDepth 100000 in
theorem octets_Reader_Text.calls (k : Nat) (g : Nat) (s0_0 : List Int) (s0_1 : Int) (s0_2 : Int) (a1 : Int) (r1 : List Int) (r2 : Int) (r3 : Int) (w0 w : World) (hI : IsS96 w0 w g s0_0 s0_1 s0_2) (hB : Below w0.heap.size w0 w) (h : octets_Reader_Text.f k s0_0 s0_1 s0_2 a1 = some (r1, r2, r3)) :
  Calls Try.prog 65 #[.pointer (some ⟨g, 0, none⟩), .int .i64 a1] w fun e w' => ∃ v0_ : Value, e = .returned (v0_) ∧ Kd.R (Kd.int .u8) 5 w' w.heap.size (fun _ => True) v0_ r1 ∧ IsS96 w0 w' g s0_0 r2 r3 ∧ Below w0.heap.size w0 w' ∧ KeepBut w w' g none := by
 have HI0 := Aside0.mk hI; have HK := Ext.a (KeepBut.refl w g none); have HL := Aside0.mk hB.size; clear hI; have HW0 := Aside0.mk hB.size; have HB := Aside0.mk hB; clear hB; have H := h; unfold octets_Reader_Text.f at H; clear h; replace H := Option.bind_eq_some_iff.mp H; obtain ⟨⟨t308, t309, t310⟩, A30, H⟩ := H; (try dsimp only at H); have A3 := Aside0.mk A30; clear A30
 by_cases c4 : t308 = true
 ·
  subst c4; rw [if_pos rfl] at H; simp only [Option.some.injEq, Prod.mk.injEq] at H; obtain ⟨rfl, rfl, rfl⟩ := H
  go_enter Try.func65, Try.ntmps65
  go_wp2_with (first | ((with_reducible refine gate_callee (f := 64) rfl ?_); refine Ext.gs (some 9) rfl rfl Try.func64 #[.pointer (some ⟨g, 0, none⟩)] rfl ?_; (with_reducible refine (octets_Reader_over.calls g s0_0 s0_1 s0_2 true t309 t310 w0 _ ?side1 ?side2 A3.out).mono ?_); (case side1 => exact IsS96.go HI0.out); (case side2 => exact Ext.s1 (IsS96.ge HI0.out) HB.out); rintro e w5 ⟨rfl, hi, hb, hk⟩; refine ⟨_, rfl, ?_⟩; replace HK := Ext.a (KeepBut.trans (Ext.k0 HK.out) hk (.inl rfl)); replace HB := Ext.a (hb); replace HI0 := Ext.a (hi); (try clear hb hk hi)))
  go_ret
  exact ⟨_, by first | rfl | (simp [errW_none, errW_some] <;> rfl) | (simp [*, errW_none, errW_some] <;> rfl), by first | exact Ext.nl | exact Kd.R_nil _ _ _ _ _, by exact IsS96.go HI0.out, by exact Ext.s1 (IsS96.ge HI0.out) HB.out, by exact Ext.k0 HK.out⟩
 ·
  replace c4 := Bool.eq_false_iff.mpr c4; subst c4; rw [if_neg Bool.false_ne_true] at H; replace H := Option.bind_eq_some_iff.mp H; obtain ⟨⟨t311, t312, t313⟩, A60, H⟩ := H; (try dsimp only at H); have A6 := Aside0.mk A60; clear A60; have HC7 := Aside0.mk H; clear H
  go_enter Try.func65, Try.ntmps65
  go_upto_region 5 with (first | ((with_reducible refine gate_callee (f := 64) rfl ?_); refine Ext.gs (some 9) rfl rfl Try.func64 #[.pointer (some ⟨g, 0, none⟩)] rfl ?_; (with_reducible refine (octets_Reader_over.calls g s0_0 s0_1 s0_2 false t309 t310 w0 _ ?side1 ?side2 A3.out).mono ?_); (case side1 => exact IsS96.go HI0.out); (case side2 => exact Ext.s1 (IsS96.ge HI0.out) HB.out); rintro e w8 ⟨rfl, hi, hb, hk⟩; refine ⟨_, rfl, ?_⟩; replace HK := Ext.a (KeepBut.trans (Ext.k0 HK.out) hk (.inl rfl)); replace HB := Ext.a (hb); replace HI0 := Ext.a (hi); (try clear hb hk hi); obtain ⟨ASz9_0, cSz9_0, HGz9, hgz9, HSz9_0⟩ := HI0.out; have hcz9_0 := cellS96_0 HGz9; have hcz9_1 := cellS96_1 HGz9; have hcz9_2 := cellS96_2 HGz9; have hfz9_1 := blk_frozen HGz9 1; have hfz9_2 := blk_frozen HGz9 2; clear HGz9 hgz9) | ((with_reducible refine gate_callee (f := 59) rfl ?_); refine Ext.gs (some 15) rfl rfl Try.func59 #[.pointer (some ⟨g, 0, none⟩), .int .i64 2] rfl ?_; (with_reducible refine (octets_Reader_Num.calls k g s0_0 t309 t310 2 t311 t312 t313 w0 _ ?side1 ?side2 A6.out).mono ?_); (case side1 => exact IsS96.go HI0.out); (case side2 => exact Ext.s1 (IsS96.ge HI0.out) HB.out); rintro e w10 ⟨rfl, hi, hb, hk⟩; refine ⟨_, rfl, ?_⟩; replace HK := Ext.a (KeepBut.trans (Ext.k0 HK.out) hk (.inl rfl)); replace HB := Ext.a (hb); replace HI0 := Ext.a (hi); (try clear hb hk hi)))
  (try simp only [Act.put, Ext.sb, Ext.sz, Ext.ss])
  go_cut [26] (fun v26 wc => ∃ (kq : Nat) (x26_6 : Bool), v26 = .bool x26_6 ∧ Aside0 (octets_Reader_Text.j0 kq t309 (wrap64 (t311)) x26_6 s0_0 t312 t313 = some (r1, r2, r3)) ∧ Aside0 (kq ≤ k) ∧ Aside0 (IsS96 w0 wc g s0_0 t312 t313) ∧ Aside0 (KeepBut w wc g none) ∧ Aside0 (Below w0.heap.size w0 wc))
  case first =>
   have H := HC7.out; clear HC7
   by_cases c11 : t313 = 0
   ·
    rw [if_pos c11] at H; obtain ⟨c11b0, c11b1⟩ := Ext.eT c11; clear c11
    (first | rw [c11b0] | (simp only [i64_w, i32_w]; rw [c11b0]) | skip)
    have H' := Aside0.mk H; clear H; obtain ⟨ASz12_0, cSz12_0, HGz12, hgz12, HSz12_0⟩ := HI0.out; have hcz12_0 := cellS96_0 HGz12; have hcz12_1 := cellS96_1 HGz12; have hcz12_2 := cellS96_2 HGz12; have hfz12_1 := blk_frozen HGz12 1; have hfz12_2 := blk_frozen HGz12 2; clear HGz12 hgz12
    go_wp2
    go_meet
    case rel => exact ⟨_, (decide ((wrap64 (t311)) > a1)), (by first | rfl | (simp; done) | (simp [*]; done)), H', ⟨by first | omega | exact Nat.le_refl _⟩, ⟨by exact IsS96.go HI0.out⟩, ⟨by exact Ext.k0 HK.out⟩, ⟨by exact Ext.s1 (IsS96.ge HI0.out) HB.out⟩⟩
   ·
    rw [if_neg c11] at H; obtain ⟨c11b0, c11b1⟩ := Ext.eF c11
    (first | rw [c11b0] | (simp only [i64_w, i32_w]; rw [c11b0]) | skip)
    have H' := Aside0.mk H; clear H; obtain ⟨ASz13_0, cSz13_0, HGz13, hgz13, HSz13_0⟩ := HI0.out; have hcz13_0 := cellS96_0 HGz13; have hcz13_1 := cellS96_1 HGz13; have hcz13_2 := cellS96_2 HGz13; have hfz13_1 := blk_frozen HGz13 1; have hfz13_2 := blk_frozen HGz13 2; clear HGz13 hgz13
    go_wp2
    go_meet
    case rel => exact ⟨_, (false), (by first | rfl | (simp; done) | (simp [*]; done)), H', ⟨by first | omega | exact Nat.le_refl _⟩, ⟨by exact IsS96.go HI0.out⟩, ⟨by exact Ext.k0 HK.out⟩, ⟨by exact Ext.s1 (IsS96.ge HI0.out) HB.out⟩⟩
  case rest =>
   clear HC7; (try clear c1 p2 c5 c6 p6 c11b0 c11b1 hcz12_0 hcz12_1 hcz12_2 hcz13_0 hcz13_1 hcz13_2 hcz9_0 hcz9_1 hcz9_2 hfz12_1 hfz12_2 hfz13_1 hfz13_2 hfz9_1 hfz9_2); obtain ⟨kq, x26_6, rfl, HA, HJ6, HI0, HK, HB⟩ := hcut; cases kq with
   | zero => exact absurd HA.out (by simp [octets_Reader_Text.j0])
   | succ kj6 =>
    have H := HA.out; clear HA; simp only [octets_Reader_Text.j0] at H
    by_cases c14 : x26_6 = true
    ·
     subst c14; rw [if_pos rfl] at H; replace H := Option.bind_eq_some_iff.mp H; obtain ⟨⟨t314, t317, t318⟩, A150, H⟩ := H; (try dsimp only at H); have A15 := Aside0.mk A150; clear A150
     by_cases c16 : t318 = 0
     ·
      rw [if_pos c16] at H; obtain ⟨c16b0, c16b1⟩ := Ext.eT c16; clear c16; simp only [Option.some.injEq, Prod.mk.injEq] at H; obtain ⟨rfl, rfl, rfl⟩ := H; obtain ⟨ASz17_0, cSz17_0, HGz17, hgz17, HSz17_0⟩ := HI0.out; have hcz17_0 := cellS96_0 HGz17; have hcz17_1 := cellS96_1 HGz17; have hcz17_2 := cellS96_2 HGz17; have hfz17_1 := blk_frozen HGz17 1; have hfz17_2 := blk_frozen HGz17 2; clear HGz17 hgz17
      go_wp2_with (first | ((with_reducible refine gate_callee (f := 67) rfl ?_); refine Ext.gs (some 32) rfl rfl Try.func67 #[.pointer (some ⟨g, 0, none⟩), .int .i64 (wrap64 (t311))] rfl ?_; (with_reducible refine (octets_Reader_Bytes.calls g s0_0 t312 5 (wrap64 (t311)) t314 t317 t318 w0 _ ?side1 ?side2 A15.out).mono ?_); (case side1 => exact IsS96.go HI0.out); (case side2 => exact Ext.s1 (IsS96.ge HI0.out) HB.out); rintro e w18 ⟨v315, rfl, ho0, hi, hb, hk⟩; refine ⟨_, rfl, ?_⟩; have HO316 := Ext.a (Kd.R_lower ho0 (keep_size (w := w) (g := g) (row := none) (Ext.k0 HK.out))); replace HK := Ext.a (KeepBut.trans (Ext.k0 HK.out) hk (.inl rfl)); replace HB := Ext.a (hb); replace HI0 := Ext.a (hi); (try clear hb hk hi ho0); obtain ⟨ASz19_0, cSz19_0, HGz19, hgz19, HSz19_0⟩ := HI0.out; have hcz19_0 := cellS96_0 HGz19; have hcz19_1 := cellS96_1 HGz19; have hcz19_2 := cellS96_2 HGz19; have hfz19_1 := blk_frozen HGz19 1; have hfz19_2 := blk_frozen HGz19 2; clear HGz19 hgz19))
      go_ret
      exact ⟨_, by first | rfl | (simp [errW_none, errW_some] <;> rfl) | (simp [*, errW_none, errW_some] <;> rfl), by exact Ext.nR HO316.out, by exact IsS96.go HI0.out, by exact Ext.s1 (IsS96.ge HI0.out) HB.out, by exact Ext.k0 HK.out⟩
     ·
      rw [if_neg c16] at H; obtain ⟨c16b0, c16b1⟩ := Ext.eF c16; simp only [Option.some.injEq, Prod.mk.injEq] at H; obtain ⟨rfl, rfl, rfl⟩ := H; obtain ⟨ASz20_0, cSz20_0, HGz20, hgz20, HSz20_0⟩ := HI0.out; have hcz20_0 := cellS96_0 HGz20; have hcz20_1 := cellS96_1 HGz20; have hcz20_2 := cellS96_2 HGz20; have hfz20_1 := blk_frozen HGz20 1; have hfz20_2 := blk_frozen HGz20 2; clear HGz20 hgz20
      go_wp2_with (first | ((with_reducible refine gate_callee (f := 67) rfl ?_); refine Ext.gs (some 32) rfl rfl Try.func67 #[.pointer (some ⟨g, 0, none⟩), .int .i64 (wrap64 (t311))] rfl ?_; (with_reducible refine (octets_Reader_Bytes.calls g s0_0 t312 5 (wrap64 (t311)) t314 t317 t318 w0 _ ?side1 ?side2 A15.out).mono ?_); (case side1 => exact IsS96.go HI0.out); (case side2 => exact Ext.s1 (IsS96.ge HI0.out) HB.out); rintro e w21 ⟨v315, rfl, ho0, hi, hb, hk⟩; refine ⟨_, rfl, ?_⟩; have HO316 := Ext.a (Kd.R_lower ho0 (keep_size (w := w) (g := g) (row := none) (Ext.k0 HK.out))); replace HK := Ext.a (KeepBut.trans (Ext.k0 HK.out) hk (.inl rfl)); replace HB := Ext.a (hb); replace HI0 := Ext.a (hi); (try clear hb hk hi ho0); obtain ⟨ASz22_0, cSz22_0, HGz22, hgz22, HSz22_0⟩ := HI0.out; have hcz22_0 := cellS96_0 HGz22; have hcz22_1 := cellS96_1 HGz22; have hcz22_2 := cellS96_2 HGz22; have hfz22_1 := blk_frozen HGz22 1; have hfz22_2 := blk_frozen HGz22 2; clear HGz22 hgz22))
      go_ret
      exact ⟨_, by first | rfl | (simp [errW_none, errW_some] <;> rfl) | (simp [*, errW_none, errW_some] <;> rfl), by (with_reducible repeat (first | apply Kd.R_alloc | apply Kd.R_drewN | apply Kd.R_drew)); exact Kd.R_mono (Kd.R_far (p := ⟨g, 1, none⟩) (IsS96.apart HI0.out HO316.out (by decide)) (fun _ hk => hk.2) (.int .i64 t309)) (fun _ hk => trivial), by exact IsS96.go HI0.out, by exact Ext.s1 (IsS96.ge HI0.out) HB.out, by exact Ext.k0 HK.out⟩
    ·
     replace c14 := Bool.eq_false_iff.mpr c14; subst c14; rw [if_neg Bool.false_ne_true] at H; replace H := Option.bind_eq_some_iff.mp H; obtain ⟨⟨t319, t322, t323⟩, A230, H⟩ := H; (try dsimp only at H); have A23 := Aside0.mk A230; clear A230
     by_cases c24 : t323 = 0
     ·
      rw [if_pos c24] at H; obtain ⟨c24b0, c24b1⟩ := Ext.eT c24; clear c24; simp only [Option.some.injEq, Prod.mk.injEq] at H; obtain ⟨rfl, rfl, rfl⟩ := H
      go_wp2_with (first | ((with_reducible refine gate_callee (f := 67) rfl ?_); refine Ext.gs (some 32) rfl rfl Try.func67 #[.pointer (some ⟨g, 0, none⟩), .int .i64 (wrap64 (t311))] rfl ?_; (with_reducible refine (octets_Reader_Bytes.calls g s0_0 t312 t313 (wrap64 (t311)) t319 t322 t323 w0 _ ?side1 ?side2 A23.out).mono ?_); (case side1 => exact IsS96.go HI0.out); (case side2 => exact Ext.s1 (IsS96.ge HI0.out) HB.out); rintro e w25 ⟨v320, rfl, ho0, hi, hb, hk⟩; refine ⟨_, rfl, ?_⟩; have HO321 := Ext.a (Kd.R_lower ho0 (keep_size (w := w) (g := g) (row := none) (Ext.k0 HK.out))); replace HK := Ext.a (KeepBut.trans (Ext.k0 HK.out) hk (.inl rfl)); replace HB := Ext.a (hb); replace HI0 := Ext.a (hi); (try clear hb hk hi ho0); obtain ⟨ASz26_0, cSz26_0, HGz26, hgz26, HSz26_0⟩ := HI0.out; have hcz26_0 := cellS96_0 HGz26; have hcz26_1 := cellS96_1 HGz26; have hcz26_2 := cellS96_2 HGz26; have hfz26_1 := blk_frozen HGz26 1; have hfz26_2 := blk_frozen HGz26 2; clear HGz26 hgz26))
      go_ret
      exact ⟨_, by first | rfl | (simp [errW_none, errW_some] <;> rfl) | (simp [*, errW_none, errW_some] <;> rfl), by exact Ext.nR HO321.out, by exact IsS96.go HI0.out, by exact Ext.s1 (IsS96.ge HI0.out) HB.out, by exact Ext.k0 HK.out⟩
     ·
      rw [if_neg c24] at H; obtain ⟨c24b0, c24b1⟩ := Ext.eF c24; simp only [Option.some.injEq, Prod.mk.injEq] at H; obtain ⟨rfl, rfl, rfl⟩ := H
      go_wp2_with (first | ((with_reducible refine gate_callee (f := 67) rfl ?_); refine Ext.gs (some 32) rfl rfl Try.func67 #[.pointer (some ⟨g, 0, none⟩), .int .i64 (wrap64 (t311))] rfl ?_; (with_reducible refine (octets_Reader_Bytes.calls g s0_0 t312 t313 (wrap64 (t311)) t319 t322 t323 w0 _ ?side1 ?side2 A23.out).mono ?_); (case side1 => exact IsS96.go HI0.out); (case side2 => exact Ext.s1 (IsS96.ge HI0.out) HB.out); rintro e w27 ⟨v320, rfl, ho0, hi, hb, hk⟩; refine ⟨_, rfl, ?_⟩; have HO321 := Ext.a (Kd.R_lower ho0 (keep_size (w := w) (g := g) (row := none) (Ext.k0 HK.out))); replace HK := Ext.a (KeepBut.trans (Ext.k0 HK.out) hk (.inl rfl)); replace HB := Ext.a (hb); replace HI0 := Ext.a (hi); (try clear hb hk hi ho0); obtain ⟨ASz28_0, cSz28_0, HGz28, hgz28, HSz28_0⟩ := HI0.out; have hcz28_0 := cellS96_0 HGz28; have hcz28_1 := cellS96_1 HGz28; have hcz28_2 := cellS96_2 HGz28; have hfz28_1 := blk_frozen HGz28 1; have hfz28_2 := blk_frozen HGz28 2; clear HGz28 hgz28))
      go_ret
      exact ⟨_, by first | rfl | (simp [errW_none, errW_some] <;> rfl) | (simp [*, errW_none, errW_some] <;> rfl), by (with_reducible repeat (first | apply Kd.R_alloc | apply Kd.R_drewN | apply Kd.R_drew)); exact Kd.R_mono (Kd.R_far (p := ⟨g, 1, none⟩) (IsS96.apart HI0.out HO321.out (by decide)) (fun _ hk => hk.2) (.int .i64 t309)) (fun _ hk => trivial), by exact IsS96.go HI0.out, by exact Ext.s1 (IsS96.ge HI0.out) HB.out, by exact Ext.k0 HK.out⟩



/-! ### reply_reader_small: function 52 -/
def reply_reader_small.f (k : Nat) (s0_0 : List Int) (s0_1 : Int) (s0_2 : Int) : Option (Int × Int × Int) := (octets_Reader_Num.f k s0_0 s0_1 s0_2 1).bind fun bt325 => (some (wrap64 (bt325.1), bt325.2.1, bt325.2.2))
theorem reply_reader_small.mono : ∀ a0 a1 a2 k, LeO (reply_reader_small.f k a0 a1 a2) (reply_reader_small.f (k + 1) a0 a1 a2) := by
 intro a0 a1 a2 k
 unfold reply_reader_small.f
 repeat' first
   | (with_reducible exact octets_Reader_Num.mono _ _ _ _ _)
   | (with_reducible exact LeO.refl _)
   | (with_reducible exact LeO.none _)
   | (with_reducible refine LeO.ite ?_ ?_)
   | (with_reducible refine LeO.bind ?_ (fun _ => ?_))
   | exact octets_Reader_Num.mono _ _ _ _ _
   | exact LeO.none _
   | refine LeO.ite ?_ ?_
   | refine LeO.bind ?_ (fun _ => ?_)
set_option maxHeartbeats 8000000 in
set_option maxRecDepth 100000 in
theorem reply_reader_small.calls (k : Nat) (g : Nat) (s0_0 : List Int) (s0_1 : Int) (s0_2 : Int) (r1 : Int) (r2 : Int) (r3 : Int) (w0 w : World) (hI : IsS96 w0 w g s0_0 s0_1 s0_2) (hB : Below w0.heap.size w0 w) (h : reply_reader_small.f k s0_0 s0_1 s0_2 = some (r1, r2, r3)) :
  Calls Try.prog 52 #[.agg #[.pointer (some ⟨g, 0, none⟩)]] w fun e w' => e = .returned (.int .i64 r1) ∧ IsS96 w0 w' g s0_0 r2 r3 ∧ Below w0.heap.size w0 w' ∧ KeepBut w w' g none := by
 have hu87 := Try.underlying87; have HI0 := Aside0.mk hI; have HK := Ext.a (KeepBut.refl w g none); have HL := Aside0.mk hB.size; clear hI; have HW0 := Aside0.mk hB.size; have HB := Aside0.mk hB; clear hB; have H := h; unfold reply_reader_small.f at H; clear h; replace H := Option.bind_eq_some_iff.mp H; obtain ⟨⟨t325, t326, t327⟩, A20, H⟩ := H; (try dsimp only at H); have A2 := Aside0.mk A20; clear A20; simp only [Option.some.injEq, Prod.mk.injEq] at H; obtain ⟨rfl, rfl, rfl⟩ := H
 go_enter Try.func52, Try.ntmps52
 go_wp2_with (first | ((with_reducible refine gate_dst (N := 1) rfl ?_); refine box_event ?hg (N := 1) ?hd (cs := #[.pointer (some ⟨g, 0, none⟩)]) (t := 87) ?hr ?_; (case hd => rfl); (case hg => rfl); (case hr => first | (go_simp; done) | (go_simp; rfl)); intro gb324 hg w3 hbox hb; replace HB := Ext.a (below_step (Ext.s1 (IsS96.ge HI0.out) HB.out) hb); have BK324 := Ext.a (hbox); have GW324 := Ext.gw hg (keep_size (Ext.k0 HK.out)); replace HK := Ext.a (KeepBut.trans (Ext.k0 HK.out) (KeepBut.of_below hb g none) (.inl rfl)); have GE324 := Ext.gt HW0 GW324; have NB0_324 := Ext.nt hg (IsS96.lt (IsS96.go HI0.out)); have NB324_0 := Ext.ng hg (IsS96.lt (IsS96.go HI0.out)); replace HI0 := Ext.a (IsS96.below (IsS96.go HI0.out) hb); clear hb hbox hg; have hnb4 := NB324_0.out; have hnc4 := NB0_324.out; have hcz5_0 : w3.cell? ⟨gb324, 0, none⟩ = some (.pointer (some ⟨g, 0, none⟩)) := (blk_cell BK324.out 0).trans rfl; have hfz5_0 := blk_frozen BK324.out 0) | ((with_reducible refine gate_callee (f := 59) rfl ?_); refine Ext.gs (some 5) rfl rfl Try.func59 #[.pointer (some ⟨g, 0, none⟩), .int .i64 1] rfl ?_; (with_reducible refine (octets_Reader_Num.calls k g s0_0 s0_1 s0_2 1 t325 t326 t327 w0 _ ?side1 ?side2 A2.out).mono ?_); (case side1 => exact IsS96.go1 NB0_324.out HI0.out); (case side2 => exact Ext.s2 GE324.out (IsS96.ge HI0.out) HB.out); rintro e w6 ⟨rfl, hi, hb, hk⟩; refine ⟨_, rfl, ?_⟩; replace BK324 := Ext.a (KeepBut.blk hk BK324.out NB324_0.out (by simp)); replace HK := Ext.a (KeepBut.trans (by first | exact Ext.kf1 GW324.out HK.out | exact Ext.k0 HK.out) hk (.inl rfl)); replace HB := Ext.a (hb); replace HI0 := Ext.a (hi); (try clear hb hk hi)))
 go_ret
 exact ⟨by first | rfl | (simp [errW_none, errW_some] <;> rfl) | (simp [*, errW_none, errW_some] <;> rfl), by exact IsS96.go1 NB0_324.out HI0.out, by exact Ext.s2 GE324.out (IsS96.ge HI0.out) HB.out, by first | exact Ext.kf1 GW324.out HK.out | exact Ext.k0 HK.out⟩



/-! ### reply_reader_num: function 53 -/
def reply_reader_num.f (k : Nat) (s0_0 : List Int) (s0_1 : Int) (s0_2 : Int) : Option (Int × Int × Int) := (octets_Reader_Num.f k s0_0 s0_1 s0_2 8).bind fun bt329 => (some (wrap64 (bt329.1), bt329.2.1, bt329.2.2))
theorem reply_reader_num.mono : ∀ a0 a1 a2 k, LeO (reply_reader_num.f k a0 a1 a2) (reply_reader_num.f (k + 1) a0 a1 a2) := by
 intro a0 a1 a2 k
 unfold reply_reader_num.f
 repeat' first
   | (with_reducible exact octets_Reader_Num.mono _ _ _ _ _)
   | (with_reducible exact LeO.refl _)
   | (with_reducible exact LeO.none _)
   | (with_reducible refine LeO.ite ?_ ?_)
   | (with_reducible refine LeO.bind ?_ (fun _ => ?_))
   | exact octets_Reader_Num.mono _ _ _ _ _
   | exact LeO.none _
   | refine LeO.ite ?_ ?_
   | refine LeO.bind ?_ (fun _ => ?_)
set_option maxHeartbeats 8000000 in
set_option maxRecDepth 100000 in
theorem reply_reader_num.calls (k : Nat) (g : Nat) (s0_0 : List Int) (s0_1 : Int) (s0_2 : Int) (r1 : Int) (r2 : Int) (r3 : Int) (w0 w : World) (hI : IsS96 w0 w g s0_0 s0_1 s0_2) (hB : Below w0.heap.size w0 w) (h : reply_reader_num.f k s0_0 s0_1 s0_2 = some (r1, r2, r3)) :
  Calls Try.prog 53 #[.agg #[.pointer (some ⟨g, 0, none⟩)]] w fun e w' => e = .returned (.int .i64 r1) ∧ IsS96 w0 w' g s0_0 r2 r3 ∧ Below w0.heap.size w0 w' ∧ KeepBut w w' g none := by
 have hu87 := Try.underlying87; have HI0 := Aside0.mk hI; have HK := Ext.a (KeepBut.refl w g none); have HL := Aside0.mk hB.size; clear hI; have HW0 := Aside0.mk hB.size; have HB := Aside0.mk hB; clear hB; have H := h; unfold reply_reader_num.f at H; clear h; replace H := Option.bind_eq_some_iff.mp H; obtain ⟨⟨t329, t330, t331⟩, A20, H⟩ := H; (try dsimp only at H); have A2 := Aside0.mk A20; clear A20; simp only [Option.some.injEq, Prod.mk.injEq] at H; obtain ⟨rfl, rfl, rfl⟩ := H
 go_enter Try.func53, Try.ntmps53
 go_wp2_with (first | ((with_reducible refine gate_dst (N := 1) rfl ?_); refine box_event ?hg (N := 1) ?hd (cs := #[.pointer (some ⟨g, 0, none⟩)]) (t := 87) ?hr ?_; (case hd => rfl); (case hg => rfl); (case hr => first | (go_simp; done) | (go_simp; rfl)); intro gb328 hg w3 hbox hb; replace HB := Ext.a (below_step (Ext.s1 (IsS96.ge HI0.out) HB.out) hb); have BK328 := Ext.a (hbox); have GW328 := Ext.gw hg (keep_size (Ext.k0 HK.out)); replace HK := Ext.a (KeepBut.trans (Ext.k0 HK.out) (KeepBut.of_below hb g none) (.inl rfl)); have GE328 := Ext.gt HW0 GW328; have NB0_328 := Ext.nt hg (IsS96.lt (IsS96.go HI0.out)); have NB328_0 := Ext.ng hg (IsS96.lt (IsS96.go HI0.out)); replace HI0 := Ext.a (IsS96.below (IsS96.go HI0.out) hb); clear hb hbox hg; have hnb4 := NB328_0.out; have hnc4 := NB0_328.out; have hcz5_0 : w3.cell? ⟨gb328, 0, none⟩ = some (.pointer (some ⟨g, 0, none⟩)) := (blk_cell BK328.out 0).trans rfl; have hfz5_0 := blk_frozen BK328.out 0) | ((with_reducible refine gate_callee (f := 59) rfl ?_); refine Ext.gs (some 5) rfl rfl Try.func59 #[.pointer (some ⟨g, 0, none⟩), .int .i64 8] rfl ?_; (with_reducible refine (octets_Reader_Num.calls k g s0_0 s0_1 s0_2 8 t329 t330 t331 w0 _ ?side1 ?side2 A2.out).mono ?_); (case side1 => exact IsS96.go1 NB0_328.out HI0.out); (case side2 => exact Ext.s2 GE328.out (IsS96.ge HI0.out) HB.out); rintro e w6 ⟨rfl, hi, hb, hk⟩; refine ⟨_, rfl, ?_⟩; replace BK328 := Ext.a (KeepBut.blk hk BK328.out NB328_0.out (by simp)); replace HK := Ext.a (KeepBut.trans (by first | exact Ext.kf1 GW328.out HK.out | exact Ext.k0 HK.out) hk (.inl rfl)); replace HB := Ext.a (hb); replace HI0 := Ext.a (hi); (try clear hb hk hi)))
 go_ret
 exact ⟨by first | rfl | (simp [errW_none, errW_some] <;> rfl) | (simp [*, errW_none, errW_some] <;> rfl), by exact IsS96.go1 NB0_328.out HI0.out, by exact Ext.s2 GE328.out (IsS96.ge HI0.out) HB.out, by first | exact Ext.kf1 GW328.out HK.out | exact Ext.k0 HK.out⟩



/-! ### reply_reader_count: function 56 -/
def reply_reader_count.f (k : Nat) (s0_0 : List Int) (s0_1 : Int) (s0_2 : Int) : Option (Int × Int × Int) := (octets_Reader_Num.f k s0_0 s0_1 s0_2 2).bind fun bt333 => (some (wrap64 (bt333.1), bt333.2.1, bt333.2.2))
theorem reply_reader_count.mono : ∀ a0 a1 a2 k, LeO (reply_reader_count.f k a0 a1 a2) (reply_reader_count.f (k + 1) a0 a1 a2) := by
 intro a0 a1 a2 k
 unfold reply_reader_count.f
 repeat' first
   | (with_reducible exact octets_Reader_Num.mono _ _ _ _ _)
   | (with_reducible exact LeO.refl _)
   | (with_reducible exact LeO.none _)
   | (with_reducible refine LeO.ite ?_ ?_)
   | (with_reducible refine LeO.bind ?_ (fun _ => ?_))
   | exact octets_Reader_Num.mono _ _ _ _ _
   | exact LeO.none _
   | refine LeO.ite ?_ ?_
   | refine LeO.bind ?_ (fun _ => ?_)
set_option maxHeartbeats 8000000 in
set_option maxRecDepth 100000 in
theorem reply_reader_count.calls (k : Nat) (g : Nat) (s0_0 : List Int) (s0_1 : Int) (s0_2 : Int) (r1 : Int) (r2 : Int) (r3 : Int) (w0 w : World) (hI : IsS96 w0 w g s0_0 s0_1 s0_2) (hB : Below w0.heap.size w0 w) (h : reply_reader_count.f k s0_0 s0_1 s0_2 = some (r1, r2, r3)) :
  Calls Try.prog 56 #[.agg #[.pointer (some ⟨g, 0, none⟩)]] w fun e w' => e = .returned (.int .i64 r1) ∧ IsS96 w0 w' g s0_0 r2 r3 ∧ Below w0.heap.size w0 w' ∧ KeepBut w w' g none := by
 have hu87 := Try.underlying87; have HI0 := Aside0.mk hI; have HK := Ext.a (KeepBut.refl w g none); have HL := Aside0.mk hB.size; clear hI; have HW0 := Aside0.mk hB.size; have HB := Aside0.mk hB; clear hB; have H := h; unfold reply_reader_count.f at H; clear h; replace H := Option.bind_eq_some_iff.mp H; obtain ⟨⟨t333, t334, t335⟩, A20, H⟩ := H; (try dsimp only at H); have A2 := Aside0.mk A20; clear A20; simp only [Option.some.injEq, Prod.mk.injEq] at H; obtain ⟨rfl, rfl, rfl⟩ := H
 go_enter Try.func56, Try.ntmps56
 go_wp2_with (first | ((with_reducible refine gate_dst (N := 1) rfl ?_); refine box_event ?hg (N := 1) ?hd (cs := #[.pointer (some ⟨g, 0, none⟩)]) (t := 87) ?hr ?_; (case hd => rfl); (case hg => rfl); (case hr => first | (go_simp; done) | (go_simp; rfl)); intro gb332 hg w3 hbox hb; replace HB := Ext.a (below_step (Ext.s1 (IsS96.ge HI0.out) HB.out) hb); have BK332 := Ext.a (hbox); have GW332 := Ext.gw hg (keep_size (Ext.k0 HK.out)); replace HK := Ext.a (KeepBut.trans (Ext.k0 HK.out) (KeepBut.of_below hb g none) (.inl rfl)); have GE332 := Ext.gt HW0 GW332; have NB0_332 := Ext.nt hg (IsS96.lt (IsS96.go HI0.out)); have NB332_0 := Ext.ng hg (IsS96.lt (IsS96.go HI0.out)); replace HI0 := Ext.a (IsS96.below (IsS96.go HI0.out) hb); clear hb hbox hg; have hnb4 := NB332_0.out; have hnc4 := NB0_332.out; have hcz5_0 : w3.cell? ⟨gb332, 0, none⟩ = some (.pointer (some ⟨g, 0, none⟩)) := (blk_cell BK332.out 0).trans rfl; have hfz5_0 := blk_frozen BK332.out 0) | ((with_reducible refine gate_callee (f := 59) rfl ?_); refine Ext.gs (some 5) rfl rfl Try.func59 #[.pointer (some ⟨g, 0, none⟩), .int .i64 2] rfl ?_; (with_reducible refine (octets_Reader_Num.calls k g s0_0 s0_1 s0_2 2 t333 t334 t335 w0 _ ?side1 ?side2 A2.out).mono ?_); (case side1 => exact IsS96.go1 NB0_332.out HI0.out); (case side2 => exact Ext.s2 GE332.out (IsS96.ge HI0.out) HB.out); rintro e w6 ⟨rfl, hi, hb, hk⟩; refine ⟨_, rfl, ?_⟩; replace BK332 := Ext.a (KeepBut.blk hk BK332.out NB332_0.out (by simp)); replace HK := Ext.a (KeepBut.trans (by first | exact Ext.kf1 GW332.out HK.out | exact Ext.k0 HK.out) hk (.inl rfl)); replace HB := Ext.a (hb); replace HI0 := Ext.a (hi); (try clear hb hk hi)))
 go_ret
 exact ⟨by first | rfl | (simp [errW_none, errW_some] <;> rfl) | (simp [*, errW_none, errW_some] <;> rfl), by exact IsS96.go1 NB0_332.out HI0.out, by exact Ext.s2 GE332.out (IsS96.ge HI0.out) HB.out, by first | exact Ext.kf1 GW332.out HK.out | exact Ext.k0 HK.out⟩



/-! ### reply_reader_well: function 57 -/
def reply_reader_well.f (s0_0 : List Int) (s0_1 : Int) (s0_2 : Int) : Option (Bool × Int × Int) := (octets_Reader_End.f s0_0 s0_1 s0_2).bind fun bt337 => (if bt337.1 = 0 then (some (true, bt337.2.1, bt337.2.2)) else ((octets_Reader_End.f s0_0 bt337.2.1 bt337.2.2).bind fun bt340 => (some ((bt340.1 == 5), bt340.2.1, bt340.2.2))))
set_option maxHeartbeats 8000000 in
set_option maxRecDepth 100000 in
theorem reply_reader_well.calls (g : Nat) (s0_0 : List Int) (s0_1 : Int) (s0_2 : Int) (r1 : Bool) (r2 : Int) (r3 : Int) (w0 w : World) (hI : IsS96 w0 w g s0_0 s0_1 s0_2) (hB : Below w0.heap.size w0 w) (h : reply_reader_well.f s0_0 s0_1 s0_2 = some (r1, r2, r3)) :
  Calls Try.prog 57 #[.agg #[.pointer (some ⟨g, 0, none⟩)]] w fun e w' => e = .returned (.bool r1) ∧ IsS96 w0 w' g s0_0 r2 r3 ∧ Below w0.heap.size w0 w' ∧ KeepBut w w' g none := by
 have hu87 := Try.underlying87; have HI0 := Aside0.mk hI; have HK := Ext.a (KeepBut.refl w g none); have HL := Aside0.mk hB.size; clear hI; have HW0 := Aside0.mk hB.size; have HB := Aside0.mk hB; clear hB; have H := h; unfold reply_reader_well.f at H; clear h; replace H := Option.bind_eq_some_iff.mp H; obtain ⟨⟨t337, t338, t339⟩, A20, H⟩ := H; (try dsimp only at H); have A2 := Aside0.mk A20; clear A20
 by_cases c3 : t337 = 0
 ·
  rw [if_pos c3] at H; obtain ⟨c3b0, c3b1⟩ := Ext.eT c3; clear c3; simp only [Option.some.injEq, Prod.mk.injEq] at H; obtain ⟨rfl, rfl, rfl⟩ := H
  go_enter Try.func57, Try.ntmps57
  go_wp2_with (first | ((with_reducible refine gate_dst (N := 1) rfl ?_); refine box_event ?hg (N := 1) ?hd (cs := #[.pointer (some ⟨g, 0, none⟩)]) (t := 87) ?hr ?_; (case hd => rfl); (case hg => rfl); (case hr => first | (go_simp; done) | (go_simp; rfl)); intro gb336 hg w4 hbox hb; replace HB := Ext.a (below_step (Ext.s1 (IsS96.ge HI0.out) HB.out) hb); have BK336 := Ext.a (hbox); have GW336 := Ext.gw hg (keep_size (Ext.k0 HK.out)); replace HK := Ext.a (KeepBut.trans (Ext.k0 HK.out) (KeepBut.of_below hb g none) (.inl rfl)); have GE336 := Ext.gt HW0 GW336; have NB0_336 := Ext.nt hg (IsS96.lt (IsS96.go HI0.out)); have NB336_0 := Ext.ng hg (IsS96.lt (IsS96.go HI0.out)); replace HI0 := Ext.a (IsS96.below (IsS96.go HI0.out) hb); clear hb hbox hg; have hnb5 := NB336_0.out; have hnc5 := NB0_336.out; have hcz6_0 : w4.cell? ⟨gb336, 0, none⟩ = some (.pointer (some ⟨g, 0, none⟩)) := (blk_cell BK336.out 0).trans rfl; have hfz6_0 := blk_frozen BK336.out 0) | ((with_reducible refine gate_callee (f := 38) rfl ?_); refine Ext.gs (some 5) rfl rfl Try.func38 #[.pointer (some ⟨g, 0, none⟩)] rfl ?_; (with_reducible refine (octets_Reader_End.calls g s0_0 s0_1 s0_2 t337 t338 t339 w0 _ ?side1 ?side2 A2.out).mono ?_); (case side1 => exact IsS96.go1 NB0_336.out HI0.out); (case side2 => exact Ext.s2 GE336.out (IsS96.ge HI0.out) HB.out); rintro e w7 ⟨rfl, hi, hb, hk⟩; refine ⟨_, rfl, ?_⟩; replace BK336 := Ext.a (KeepBut.blk hk BK336.out NB336_0.out (by simp)); replace HK := Ext.a (KeepBut.trans (by first | exact Ext.kf1 GW336.out HK.out | exact Ext.k0 HK.out) hk (.inl rfl)); replace HB := Ext.a (hb); replace HI0 := Ext.a (hi); (try clear hb hk hi)))
  go_ret
  exact ⟨by first | rfl | (simp [errW_none, errW_some] <;> rfl) | (simp [*, errW_none, errW_some] <;> rfl), by exact IsS96.go1 NB0_336.out HI0.out, by exact Ext.s2 GE336.out (IsS96.ge HI0.out) HB.out, by first | exact Ext.kf1 GW336.out HK.out | exact Ext.k0 HK.out⟩
 ·
  rw [if_neg c3] at H; obtain ⟨c3b0, c3b1⟩ := Ext.eF c3; replace H := Option.bind_eq_some_iff.mp H; obtain ⟨⟨t340, t341, t342⟩, A80, H⟩ := H; (try dsimp only at H); have A8 := Aside0.mk A80; clear A80; simp only [Option.some.injEq, Prod.mk.injEq] at H; obtain ⟨rfl, rfl, rfl⟩ := H
  go_enter Try.func57, Try.ntmps57
  go_wp2_with (first | ((with_reducible refine gate_dst (N := 1) rfl ?_); refine box_event ?hg (N := 1) ?hd (cs := #[.pointer (some ⟨g, 0, none⟩)]) (t := 87) ?hr ?_; (case hd => rfl); (case hg => rfl); (case hr => first | (go_simp; done) | (go_simp; rfl)); intro gb336 hg w9 hbox hb; replace HB := Ext.a (below_step (Ext.s1 (IsS96.ge HI0.out) HB.out) hb); have BK336 := Ext.a (hbox); have GW336 := Ext.gw hg (keep_size (Ext.k0 HK.out)); replace HK := Ext.a (KeepBut.trans (Ext.k0 HK.out) (KeepBut.of_below hb g none) (.inl rfl)); have GE336 := Ext.gt HW0 GW336; have NB0_336 := Ext.nt hg (IsS96.lt (IsS96.go HI0.out)); have NB336_0 := Ext.ng hg (IsS96.lt (IsS96.go HI0.out)); replace HI0 := Ext.a (IsS96.below (IsS96.go HI0.out) hb); clear hb hbox hg; have hnb10 := NB336_0.out; have hnc10 := NB0_336.out; have hcz11_0 : w9.cell? ⟨gb336, 0, none⟩ = some (.pointer (some ⟨g, 0, none⟩)) := (blk_cell BK336.out 0).trans rfl; have hfz11_0 := blk_frozen BK336.out 0) | ((with_reducible refine gate_callee (f := 38) rfl ?_); refine Ext.gs (some 5) rfl rfl Try.func38 #[.pointer (some ⟨g, 0, none⟩)] rfl ?_; (with_reducible refine (octets_Reader_End.calls g s0_0 s0_1 s0_2 t337 t338 t339 w0 _ ?side1 ?side2 A2.out).mono ?_); (case side1 => exact IsS96.go1 NB0_336.out HI0.out); (case side2 => exact Ext.s2 GE336.out (IsS96.ge HI0.out) HB.out); rintro e w12 ⟨rfl, hi, hb, hk⟩; refine ⟨_, rfl, ?_⟩; replace BK336 := Ext.a (KeepBut.blk hk BK336.out NB336_0.out (by simp)); replace HK := Ext.a (KeepBut.trans (by first | exact Ext.kf1 GW336.out HK.out | exact Ext.k0 HK.out) hk (.inl rfl)); replace HB := Ext.a (hb); replace HI0 := Ext.a (hi); (try clear hb hk hi); have hcz13_0 : w12.cell? ⟨gb336, 0, none⟩ = some (.pointer (some ⟨g, 0, none⟩)) := (blk_cell BK336.out 0).trans rfl; have hfz13_0 := blk_frozen BK336.out 0) | (go_at_call 38; (with_reducible refine (octets_Reader_End.calls g s0_0 t338 t339 t340 t341 t342 w0 _ ?side1 ?side2 A8.out).mono ?_); (case side1 => exact IsS96.go1 NB0_336.out HI0.out); (case side2 => exact Ext.s2 GE336.out (IsS96.ge HI0.out) HB.out); rintro e w14 ⟨rfl, hi, hb, hk⟩; replace BK336 := Ext.a (KeepBut.blk hk BK336.out NB336_0.out (by simp)); replace HK := Ext.a (KeepBut.trans (by first | exact Ext.kf1 GW336.out HK.out | exact Ext.k0 HK.out) hk (.inl rfl)); replace HB := Ext.a (hb); replace HI0 := Ext.a (hi); (try clear hb hk hi)))
  go_ret
  exact ⟨by first | rfl | (simp [errW_none, errW_some] <;> rfl) | (simp [*, errW_none, errW_some] <;> rfl), by exact IsS96.go1 NB0_336.out HI0.out, by exact Ext.s2 GE336.out (IsS96.ge HI0.out) HB.out, by first | exact Ext.kf1 GW336.out HK.out | exact Ext.k0 HK.out⟩



/-! ### reply_reader_text: function 58 -/
def reply_reader_text.f (k : Nat) (s0_0 : List Int) (s0_1 : Int) (s0_2 : Int) : Option (List Int × Int × Int) := (octets_Reader_Text.f k s0_0 s0_1 s0_2 65535).bind fun bt344 => (some (bt344.1, bt344.2.1, bt344.2.2))
theorem reply_reader_text.mono : ∀ a0 a1 a2 k, LeO (reply_reader_text.f k a0 a1 a2) (reply_reader_text.f (k + 1) a0 a1 a2) := by
 intro a0 a1 a2 k
 unfold reply_reader_text.f
 repeat' first
   | (with_reducible exact octets_Reader_Text.mono _ _ _ _ _)
   | (with_reducible exact LeO.refl _)
   | (with_reducible exact LeO.none _)
   | (with_reducible refine LeO.ite ?_ ?_)
   | (with_reducible refine LeO.bind ?_ (fun _ => ?_))
   | exact octets_Reader_Text.mono _ _ _ _ _
   | exact LeO.none _
   | refine LeO.ite ?_ ?_
   | refine LeO.bind ?_ (fun _ => ?_)
set_option maxHeartbeats 8000000 in
set_option maxRecDepth 100000 in
theorem reply_reader_text.calls (k : Nat) (g : Nat) (s0_0 : List Int) (s0_1 : Int) (s0_2 : Int) (r1 : List Int) (r2 : Int) (r3 : Int) (w0 w : World) (hI : IsS96 w0 w g s0_0 s0_1 s0_2) (hB : Below w0.heap.size w0 w) (h : reply_reader_text.f k s0_0 s0_1 s0_2 = some (r1, r2, r3)) :
  Calls Try.prog 58 #[.agg #[.pointer (some ⟨g, 0, none⟩)]] w fun e w' => ∃ v0_ : Value, e = .returned (v0_) ∧ Kd.R (Kd.int .u8) 5 w' w.heap.size (fun _ => True) v0_ r1 ∧ IsS96 w0 w' g s0_0 r2 r3 ∧ Below w0.heap.size w0 w' ∧ KeepBut w w' g none := by
 have hu87 := Try.underlying87; have HI0 := Aside0.mk hI; have HK := Ext.a (KeepBut.refl w g none); have HL := Aside0.mk hB.size; clear hI; have HW0 := Aside0.mk hB.size; have HB := Aside0.mk hB; clear hB; have H := h; unfold reply_reader_text.f at H; clear h; replace H := Option.bind_eq_some_iff.mp H; obtain ⟨⟨t344, t347, t348⟩, A20, H⟩ := H; (try dsimp only at H); have A2 := Aside0.mk A20; clear A20; simp only [Option.some.injEq, Prod.mk.injEq] at H; obtain ⟨rfl, rfl, rfl⟩ := H
 go_enter Try.func58, Try.ntmps58
 go_wp2_with (first | ((with_reducible refine gate_dst (N := 1) rfl ?_); refine box_event ?hg (N := 1) ?hd (cs := #[.pointer (some ⟨g, 0, none⟩)]) (t := 87) ?hr ?_; (case hd => rfl); (case hg => rfl); (case hr => first | (go_simp; done) | (go_simp; rfl)); intro gb343 hg w3 hbox hb; replace HB := Ext.a (below_step (Ext.s1 (IsS96.ge HI0.out) HB.out) hb); have BK343 := Ext.a (hbox); have GW343 := Ext.gw hg (keep_size (Ext.k0 HK.out)); replace HK := Ext.a (KeepBut.trans (Ext.k0 HK.out) (KeepBut.of_below hb g none) (.inl rfl)); have GE343 := Ext.gt HW0 GW343; have NB0_343 := Ext.nt hg (IsS96.lt (IsS96.go HI0.out)); have NB343_0 := Ext.ng hg (IsS96.lt (IsS96.go HI0.out)); replace HI0 := Ext.a (IsS96.below (IsS96.go HI0.out) hb); clear hb hbox hg; have hnb4 := NB343_0.out; have hnc4 := NB0_343.out; have hcz5_0 : w3.cell? ⟨gb343, 0, none⟩ = some (.pointer (some ⟨g, 0, none⟩)) := (blk_cell BK343.out 0).trans rfl; have hfz5_0 := blk_frozen BK343.out 0) | ((with_reducible refine gate_callee (f := 65) rfl ?_); refine Ext.gs (some 5) rfl rfl Try.func65 #[.pointer (some ⟨g, 0, none⟩), .int .i64 65535] rfl ?_; (with_reducible refine (octets_Reader_Text.calls k g s0_0 s0_1 s0_2 65535 t344 t347 t348 w0 _ ?side1 ?side2 A2.out).mono ?_); (case side1 => exact IsS96.go1 NB0_343.out HI0.out); (case side2 => exact Ext.s2 GE343.out (IsS96.ge HI0.out) HB.out); rintro e w6 ⟨v345, rfl, ho0, hi, hb, hk⟩; refine ⟨_, rfl, ?_⟩; replace BK343 := Ext.a (KeepBut.blk hk BK343.out NB343_0.out (by simp)); have HO346 := Ext.a (Kd.R_lower ho0 (keep_size (w := w) (g := g) (row := none) (by first | exact Ext.kf1 GW343.out HK.out | exact Ext.k0 HK.out))); replace HK := Ext.a (KeepBut.trans (by first | exact Ext.kf1 GW343.out HK.out | exact Ext.k0 HK.out) hk (.inl rfl)); replace HB := Ext.a (hb); replace HI0 := Ext.a (hi); (try clear hb hk hi ho0)))
 go_ret
 exact ⟨_, by first | rfl | (simp [errW_none, errW_some] <;> rfl) | (simp [*, errW_none, errW_some] <;> rfl), by exact Ext.nR HO346.out, by exact IsS96.go1 NB0_343.out HI0.out, by exact Ext.s2 GE343.out (IsS96.ge HI0.out) HB.out, by first | exact Ext.kf1 GW343.out HK.out | exact Ext.k0 HK.out⟩

end Go.Proofs.Ytlhjdmpclfhoeaa.PK
