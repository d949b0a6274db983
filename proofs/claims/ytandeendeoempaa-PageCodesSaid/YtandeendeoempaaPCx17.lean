-- Written by wip/printx.py, a program of this work over the kit's print, for this claim.
import Derived.Test.YtandeendeoempaaNob
import Derived.Test.YtandeendeoempaaPCx0
import Derived.Test.YtandeendeoempaaPCx4
import Derived.Test.YtandeendeoempaaPCx7
import Derived.Test.YtandeendeoempaaPCx8
import Derived.Test.YtandeendeoempaaPCx9
import Derived.Test.YtandeendeoempaaPCx10
import Derived.Test.YtandeendeoempaaPCx13
import Derived.Test.YtandeendeoempaaPCx14
import Derived.Test.YtandeendeoempaaPCx16
namespace Go.Proofs.Ytandeendeoempaa.PC
open Go.RowKit Go.Proofs.YtandeendeoempaaW.PrintWords Go.Proofs.YtandeendeoempaaW.PrintLast Go.Proofs.YtandeendeoempaaW.PrintMore
attribute [local go_sem] max2_int min2_int max_two min_two max_three min_three max_four min_four   -- for this text's walks alone
attribute [local go_sem] Ext.pick_u8 Ext.pick_u32 Ext.pick_u64
set_option linter.unusedVariables false
set_option linter.unusedSimpArgs false

@[reducible] def zb3_0 : Array Bool := #[false, false, false, false, false, false, false, false, false, false, false]
@[reducible] def zb3_1 : Array Bool := #[false, false, true, false, false, false, false, false, false, false, false]

/-! ### terrierlaw04_PageCodes: function 3 -/
mutual
def terrierlaw04_PageCodes.j0 : Nat → Bool → Int → Int → Int → List (S44) → List (S60) → List Int → List Int → Option (Bool)
 | 0, _, _, _, _, _, _, _, _ => none
 | k + 1, x13, x386000, x386001, x386002, x386003, x386004, x386005, x386006 => if x13 = true then ((terrierlaw04_lives.f k).bind fun t388 => (some t388)) else ((terrierlaw04_Of.f k x386000 x386001 x386002 x386003 x386004 x386005 x386006).bind fun bt389 => ((page_Encode.f k x386000 x386001 x386002 x386003 x386004 x386005 x386006).bind fun bt405 => ((terrierref04_Right.f k bt389.1 bt389.2.1 bt389.2.2.1 bt389.2.2.2.1 bt389.2.2.2.2.1 bt389.2.2.2.2.2.1 bt389.2.2.2.2.2.2).bind fun t409 => ((page_Right.f k x386000 x386001 x386002 x386003 x386004 x386005 x386006).bind fun t410 => (if (t410 != t409) = true then (terrierlaw04_PageCodes.j1 k bt405.1 bt405.2 t409 true bt389.1 bt389.2.1 bt389.2.2.1 bt389.2.2.2.1 bt389.2.2.2.2.1 bt389.2.2.2.2.2.1 bt389.2.2.2.2.2.2) else ((terrierlaw04_Of.f k x386000 x386001 x386002 x386003 x386004 x386005 x386006).bind fun bt411 => ((terrierref04_Same.f k bt411.1 bt411.2.1 bt411.2.2.1 bt411.2.2.2.1 bt411.2.2.2.2.1 bt411.2.2.2.2.2.1 bt411.2.2.2.2.2.2 bt389.1 bt389.2.1 bt389.2.2.1 bt389.2.2.2.1 bt389.2.2.2.2.1 bt389.2.2.2.2.2.1 bt389.2.2.2.2.2.2).bind fun t426 => (terrierlaw04_PageCodes.j1 k bt405.1 bt405.2 t409 (!t426) bt389.1 bt389.2.1 bt389.2.2.1 bt389.2.2.2.1 bt389.2.2.2.2.1 bt389.2.2.2.2.2.1 bt389.2.2.2.2.2.2))))))))
def terrierlaw04_PageCodes.j1 : Nat → List Int → Int → Bool → Bool → Int → Int → Int → List (S61) → List (S62) → List Int → List Int → Option (Bool)
 | 0, _, _, _, _, _, _, _, _, _, _, _ => none
 | k + 1, x4, x5, x6, x34, x405000, x405001, x405002, x405003, x405004, x405005, x405006 => if x34 = true then (some false) else (if x6 = true then (if x5 = 0 then ((terrierref04_Encode.f k x405000 x405001 x405002 x405003 x405004 x405005 x405006).bind fun t427 => ((terrierref01_Same.f x4 t427).bind fun t430 => (if t430 = true then (some true) else (some false)))) else (some false)) else (if x5 = 4 then (some ((x4.length : Int) == 0)) else (some false)))
end
def terrierlaw04_PageCodes.f (k : Nat) (a0_0 : Int) (a0_1 : Int) (a0_2 : Int) (l0_3 : List (S44)) (l0_4 : List (S60)) (l0_5 : List Int) (l0_6 : List Int) : Option (Bool) := (terrierlaw04_lives.f k).bind fun t386 => (if t386 = true then ((terrierlaw04_few.f k a0_0 a0_1 a0_2 l0_3 l0_4 l0_5 l0_6).bind fun t387 => (terrierlaw04_PageCodes.j0 k (!t387) a0_0 a0_1 a0_2 l0_3 l0_4 l0_5 l0_6)) else (terrierlaw04_PageCodes.j0 k true a0_0 a0_1 a0_2 l0_3 l0_4 l0_5 l0_6))
theorem terrierlaw04_PageCodes.mono_l : ∀ k, (∀ y0 y1 y2 y3 y4 y5 y6 y7, LeO (terrierlaw04_PageCodes.j0 k y0 y1 y2 y3 y4 y5 y6 y7) (terrierlaw04_PageCodes.j0 (k + 1) y0 y1 y2 y3 y4 y5 y6 y7)) ∧ (∀ y0 y1 y2 y3 y4 y5 y6 y7 y8 y9 y10, LeO (terrierlaw04_PageCodes.j1 k y0 y1 y2 y3 y4 y5 y6 y7 y8 y9 y10) (terrierlaw04_PageCodes.j1 (k + 1) y0 y1 y2 y3 y4 y5 y6 y7 y8 y9 y10))
 | 0 => ⟨fun _ _ _ _ _ _ _ _ r h => by simp [terrierlaw04_PageCodes.j0] at h, fun _ _ _ _ _ _ _ _ _ _ _ r h => by simp [terrierlaw04_PageCodes.j1] at h⟩
 | k + 1 => by
  obtain ⟨ih0, ih1⟩ := terrierlaw04_PageCodes.mono_l k; refine ⟨?_, ?_⟩
  ·
   intro y0 y1 y2 y3 y4 y5 y6 y7
   unfold terrierlaw04_PageCodes.j0
   repeat' first
   | (with_reducible exact ih0 _ _ _ _ _ _ _ _)
   | (with_reducible exact ih1 _ _ _ _ _ _ _ _ _ _ _)
   | (with_reducible exact page_Encode.mono _ _ _ _ _ _ _ _)
   | (with_reducible exact page_Right.mono _ _ _ _ _ _ _ _)
   | (with_reducible exact terrierlaw04_Of.mono _ _ _ _ _ _ _ _)
   | (with_reducible exact terrierlaw04_few.mono _ _ _ _ _ _ _ _)
   | (with_reducible exact terrierlaw04_lives.mono _)
   | (with_reducible exact terrierref04_Encode.mono _ _ _ _ _ _ _ _)
   | (with_reducible exact terrierref04_Right.mono _ _ _ _ _ _ _ _)
   | (with_reducible exact terrierref04_Same.mono _ _ _ _ _ _ _ _ _ _ _ _ _ _ _)
   | (with_reducible exact LeO.refl _)
   | (with_reducible exact LeO.none _)
   | (with_reducible refine LeO.ite ?_ ?_)
   | (with_reducible refine LeO.bind ?_ (fun _ => ?_))
   | exact ih0 _ _ _ _ _ _ _ _
   | exact ih1 _ _ _ _ _ _ _ _ _ _ _
   | exact page_Encode.mono _ _ _ _ _ _ _ _
   | exact page_Right.mono _ _ _ _ _ _ _ _
   | exact terrierlaw04_Of.mono _ _ _ _ _ _ _ _
   | exact terrierlaw04_few.mono _ _ _ _ _ _ _ _
   | exact terrierlaw04_lives.mono _
   | exact terrierref04_Encode.mono _ _ _ _ _ _ _ _
   | exact terrierref04_Right.mono _ _ _ _ _ _ _ _
   | exact terrierref04_Same.mono _ _ _ _ _ _ _ _ _ _ _ _ _ _ _
   | exact LeO.none _
   | refine LeO.ite ?_ ?_
   | refine LeO.bind ?_ (fun _ => ?_)
  ·
   intro y0 y1 y2 y3 y4 y5 y6 y7 y8 y9 y10
   unfold terrierlaw04_PageCodes.j1
   repeat' first
   | (with_reducible exact ih0 _ _ _ _ _ _ _ _)
   | (with_reducible exact ih1 _ _ _ _ _ _ _ _ _ _ _)
   | (with_reducible exact page_Encode.mono _ _ _ _ _ _ _ _)
   | (with_reducible exact page_Right.mono _ _ _ _ _ _ _ _)
   | (with_reducible exact terrierlaw04_Of.mono _ _ _ _ _ _ _ _)
   | (with_reducible exact terrierlaw04_few.mono _ _ _ _ _ _ _ _)
   | (with_reducible exact terrierlaw04_lives.mono _)
   | (with_reducible exact terrierref04_Encode.mono _ _ _ _ _ _ _ _)
   | (with_reducible exact terrierref04_Right.mono _ _ _ _ _ _ _ _)
   | (with_reducible exact terrierref04_Same.mono _ _ _ _ _ _ _ _ _ _ _ _ _ _ _)
   | (with_reducible exact LeO.refl _)
   | (with_reducible exact LeO.none _)
   | (with_reducible refine LeO.ite ?_ ?_)
   | (with_reducible refine LeO.bind ?_ (fun _ => ?_))
   | exact ih0 _ _ _ _ _ _ _ _
   | exact ih1 _ _ _ _ _ _ _ _ _ _ _
   | exact page_Encode.mono _ _ _ _ _ _ _ _
   | exact page_Right.mono _ _ _ _ _ _ _ _
   | exact terrierlaw04_Of.mono _ _ _ _ _ _ _ _
   | exact terrierlaw04_few.mono _ _ _ _ _ _ _ _
   | exact terrierlaw04_lives.mono _
   | exact terrierref04_Encode.mono _ _ _ _ _ _ _ _
   | exact terrierref04_Right.mono _ _ _ _ _ _ _ _
   | exact terrierref04_Same.mono _ _ _ _ _ _ _ _ _ _ _ _ _ _ _
   | exact LeO.none _
   | refine LeO.ite ?_ ?_
   | refine LeO.bind ?_ (fun _ => ?_)
theorem terrierlaw04_PageCodes.mono : ∀ a0 a1 a2 a3 a4 a5 a6 k, LeO (terrierlaw04_PageCodes.f k a0 a1 a2 a3 a4 a5 a6) (terrierlaw04_PageCodes.f (k + 1) a0 a1 a2 a3 a4 a5 a6) := by
 intro a0 a1 a2 a3 a4 a5 a6 k
 obtain ⟨ih0, ih1⟩ := terrierlaw04_PageCodes.mono_l k; unfold terrierlaw04_PageCodes.f
 repeat' first
   | (with_reducible exact ih0 _ _ _ _ _ _ _ _)
   | (with_reducible exact ih1 _ _ _ _ _ _ _ _ _ _ _)
   | (with_reducible exact page_Encode.mono _ _ _ _ _ _ _ _)
   | (with_reducible exact page_Right.mono _ _ _ _ _ _ _ _)
   | (with_reducible exact terrierlaw04_Of.mono _ _ _ _ _ _ _ _)
   | (with_reducible exact terrierlaw04_few.mono _ _ _ _ _ _ _ _)
   | (with_reducible exact terrierlaw04_lives.mono _)
   | (with_reducible exact terrierref04_Encode.mono _ _ _ _ _ _ _ _)
   | (with_reducible exact terrierref04_Right.mono _ _ _ _ _ _ _ _)
   | (with_reducible exact terrierref04_Same.mono _ _ _ _ _ _ _ _ _ _ _ _ _ _ _)
   | (with_reducible exact LeO.refl _)
   | (with_reducible exact LeO.none _)
   | (with_reducible refine LeO.ite ?_ ?_)
   | (with_reducible refine LeO.bind ?_ (fun _ => ?_))
   | exact ih0 _ _ _ _ _ _ _ _
   | exact ih1 _ _ _ _ _ _ _ _ _ _ _
   | exact page_Encode.mono _ _ _ _ _ _ _ _
   | exact page_Right.mono _ _ _ _ _ _ _ _
   | exact terrierlaw04_Of.mono _ _ _ _ _ _ _ _
   | exact terrierlaw04_few.mono _ _ _ _ _ _ _ _
   | exact terrierlaw04_lives.mono _
   | exact terrierref04_Encode.mono _ _ _ _ _ _ _ _
   | exact terrierref04_Right.mono _ _ _ _ _ _ _ _
   | exact terrierref04_Same.mono _ _ _ _ _ _ _ _ _ _ _ _ _ _ _
   | exact LeO.none _
   | refine LeO.ite ?_ ?_
   | refine LeO.bind ?_ (fun _ => ?_)
def terrierlaw04_PageCodes.T6 : Bool × List (List Nat × List Nat) := (true, [([], []), ([0], [0]), ([], []), ([1, 2], [1, 2]), ([3, 1], [3]), ([4], [4]), ([5, 4, 4], [4, 5]), ([4], [4]), ([6, 7, 6, 4], [4, 6, 7]), ([8, 4], [4, 8]), ([4, 9], [4, 9])])
def terrierlaw04_PageCodes.B6 : List Nat := [0, 1, 0, 7, 15, 31, 63, 31, 255, 511, 1023]
theorem terrierlaw04_PageCodes.tab6 : rtab .any (opsOf Try.f3 6) = terrierlaw04_PageCodes.T6 := by kernel_rfl
theorem terrierlaw04_PageCodes.bits6 : waitsOk terrierlaw04_PageCodes.T6.2 terrierlaw04_PageCodes.B6 = true := by kernel_rfl
set_option maxHeartbeats 8000000 in
set_option maxRecDepth 100000 in
theorem terrierlaw04_PageCodes.calls (k : Nat) (a0_0 : Int) (a0_1 : Int) (a0_2 : Int) (A0_3 : Option Addr) (c0_3 : Nat) (l0_3 : List (S44)) (A0_4 : Option Addr) (c0_4 : Nat) (l0_4 : List (S60)) (A0_5 : Option Addr) (c0_5 : Nat) (l0_5 : List Int) (A0_6 : Option Addr) (c0_6 : Nat) (l0_6 : List Int) (r : Bool) (w : World) (hr0_3 : Kd.C k44 w A0_3 l0_3.length l0_3) (hc0_3 : l0_3.length ≤ c0_3) (hr0_4 : Kd.C k60 w A0_4 l0_4.length l0_4) (hc0_4 : l0_4.length ≤ c0_4) (hr0_5 : Kd.C (Kd.int .u8) w A0_5 l0_5.length l0_5) (hc0_5 : l0_5.length ≤ c0_5) (hr0_6 : Kd.C (Kd.int .i64) w A0_6 l0_6.length l0_6) (hc0_6 : l0_6.length ≤ c0_6) (h : terrierlaw04_PageCodes.f k a0_0 a0_1 a0_2 l0_3 l0_4 l0_5 l0_6 = some r) :
  Calls Try.prog 3 #[.agg #[.int .i64 a0_0, .int .u64 a0_1, .int .i64 a0_2, .slice A0_3 l0_3.length c0_3, .slice A0_4 l0_4.length c0_4, .slice A0_5 l0_5.length c0_5, .slice A0_6 l0_6.length c0_6]] w fun e w' => e = .returned (.bool r) ∧ Below w.heap.size w w' := by
 have hu28 := Try.underlying28; have hu34 := Try.underlying34; have HR0_3 := Aside0.mk hr0_3; have HC0_3 := Aside0.mk hc0_3; clear hr0_3 hc0_3; have HR0_4 := Aside0.mk hr0_4; have HC0_4 := Aside0.mk hc0_4; clear hr0_4 hc0_4; have HR0_5 := Aside0.mk hr0_5; have HC0_5 := Aside0.mk hc0_5; clear hr0_5 hc0_5; have HR0_6 := Aside0.mk hr0_6; have HC0_6 := Aside0.mk hc0_6; clear hr0_6 hc0_6; have HB := Ext.a (Below.refl w.heap.size w); have H := h; unfold terrierlaw04_PageCodes.f at H; clear h; have HC2 := Aside0.mk H; clear H
 go_enter Try.func3, Try.ntmps3
 go_upto_region 1 with (first | ((with_reducible refine gate_dst (N := 1) rfl ?_); (try (refine gate_guard (by rfl) ?_; dsimp only)); refine box_event ?hg (N := 1) ?hd (cs := #[.int .i64 a0_0, .int .u64 a0_1, .int .i64 a0_2, .slice A0_3 l0_3.length c0_3, .slice A0_4 l0_4.length c0_4, .slice A0_5 l0_5.length c0_5, .slice A0_6 l0_6.length c0_6]) (t := 28) ?hr ?_; (case hd => rfl); (case hg => rfl); (case hr => first | (go_simp; done) | (go_simp; rfl)); intro gb385 hg w3 hbox hb; have BK385 := Ext.a (hbox); have GW385 := Ext.gw hg (below_size (Ext.nB HB.out)); have GE385 := Ext.gw hg (below_size (Ext.nB HB.out)); replace HB := Ext.a (below_step (Ext.nB HB.out) hb); clear hb hbox hg))
 (try simp only [Act.put, Ext.sb, Ext.sz, Ext.ss])
 go_cut [13] (fun v13 wc => ∃ (kq : Nat) (x13_1 : Bool), v13 = .bool x13_1 ∧ Aside0 (terrierlaw04_PageCodes.j0 kq x13_1 a0_0 a0_1 a0_2 l0_3 l0_4 l0_5 l0_6 = some r) ∧ Aside0 (kq ≤ k) ∧ Aside0 (wc.heap[gb385]? = some (.cells #[.int .i64 a0_0, .int .u64 a0_1, .int .i64 a0_2, (.slice A0_3 l0_3.length c0_3), (.slice A0_4 l0_4.length c0_4), (.slice A0_5 l0_5.length c0_5), (.slice A0_6 l0_6.length c0_6)] 28 (0, 0))) ∧ Aside0 (Below w.heap.size w wc))
 case first =>
  have H := HC2.out; clear HC2; replace H := Option.bind_eq_some_iff.mp H; obtain ⟨t386, A40, H⟩ := H; (try dsimp only at H); have A4 := Aside0.mk A40; clear A40
  by_cases c5 : t386 = true
  ·
   subst c5; rw [if_pos rfl] at H; replace H := Option.bind_eq_some_iff.mp H; obtain ⟨t387, A60, H⟩ := H; (try dsimp only at H); have A6 := Aside0.mk A60; clear A60; have H' := Aside0.mk H; clear H
   go_wp2_with (first | ((with_reducible refine gate_callee (f := 9) rfl ?_); refine Ext.gs (some 7) rfl rfl Try.func9 #[] rfl ?_; (with_reducible refine (terrierlaw04_lives.calls k  true _ A4.out).mono ?_); rintro e w7 ⟨rfl, hb⟩; refine ⟨_, rfl, ?_⟩; replace BK385 := Ext.a (blk_below BK385.out hb); replace HB := Ext.a (below_step (Ext.s1 GE385.out HB.out) hb); (try clear hb); have hcz8 := Ext.cells7 BK385.out; have hfz8 := Ext.froz7 BK385.out) | ((with_reducible refine gate_dst (N := 10) rfl ?_); (try (refine gate_guard (by rfl) ?_; dsimp only)); refine Ext.struct_load_blk (hgd := ?hg) (t := 28) (x := ?vx_10) (ho := ?ho) (haddr := ?ha) Try.underlying28 rfl (by kernel_rfl) BK385.out ?_; (case ho => rfl); (case hg => rfl); (case ha => rfl)) | (go_at_call 10; (with_reducible refine (terrierlaw04_few.calls k a0_0 a0_1 a0_2 _ _ l0_3 _ _ l0_4 _ _ l0_5 _ _ l0_6 t387 _ ?side1 ?side2 ?side3 ?side4 ?side5 ?side6 ?side7 ?side8 A6.out).mono ?_); (case side1 => first | exact Ext.kC HR0_3.out HB.out | exact Ext.nC HR0_3.out); (case side2 => exact HC0_3.out); (case side3 => first | exact Ext.kC HR0_4.out HB.out | exact Ext.nC HR0_4.out); (case side4 => exact HC0_4.out); (case side5 => first | exact Ext.kC HR0_5.out HB.out | exact Ext.nC HR0_5.out); (case side6 => exact HC0_5.out); (case side7 => first | exact Ext.kC HR0_6.out HB.out | exact Ext.nC HR0_6.out); (case side8 => exact HC0_6.out); rintro e w9 ⟨rfl, hb⟩; replace BK385 := Ext.a (blk_below BK385.out hb); replace HB := Ext.a (below_step (Ext.s1 GE385.out HB.out) hb); (try clear hb)))
   go_meet
   case rel => exact ⟨_, (!t387), (by first | rfl | (simp; done) | (simp [*]; done)), H', ⟨by first | omega | exact Nat.le_refl _⟩, ⟨by exact BK385.out⟩, ⟨by exact Ext.s1 GE385.out HB.out⟩⟩
  ·
   replace c5 := Bool.eq_false_iff.mpr c5; subst c5; rw [if_neg Bool.false_ne_true] at H; have H' := Aside0.mk H; clear H
   go_wp2_with (first | ((with_reducible refine gate_callee (f := 9) rfl ?_); refine Ext.gs (some 7) rfl rfl Try.func9 #[] rfl ?_; (with_reducible refine (terrierlaw04_lives.calls k  false _ A4.out).mono ?_); rintro e w10 ⟨rfl, hb⟩; refine ⟨_, rfl, ?_⟩; replace BK385 := Ext.a (blk_below BK385.out hb); replace HB := Ext.a (below_step (Ext.s1 GE385.out HB.out) hb); (try clear hb)))
   go_meet
   case rel => exact ⟨_, (true), (by first | rfl | (simp; done) | (simp [*]; done)), H', ⟨by first | omega | exact Nat.le_refl _⟩, ⟨by exact BK385.out⟩, ⟨by exact Ext.s1 GE385.out HB.out⟩⟩
 case rest =>
  clear HC2; (try clear p2 c3 c9 hcz8 hfz8); obtain ⟨kq, x13_1, rfl, HA, HJ1, BK385, HB⟩ := hcut; cases kq with
  | zero => exact absurd HA.out (by simp [terrierlaw04_PageCodes.j0])
  | succ kj1 =>
   have H := HA.out; clear HA; simp only [terrierlaw04_PageCodes.j0] at H
   by_cases c11 : x13_1 = true
   ·
    subst c11; rw [if_pos rfl] at H; replace H := Option.bind_eq_some_iff.mp H; obtain ⟨t388, A120, H⟩ := H; (try dsimp only at H); have A12 := Aside0.mk A120; clear A120; obtain rfl := Option.some.inj H
    go_wp2_with (first | ((with_reducible refine gate_callee (f := 9) rfl ?_); refine Ext.gs (some 14) rfl rfl Try.func9 #[] rfl ?_; (with_reducible refine (terrierlaw04_lives.calls kj1  t388 _ A12.out).mono ?_); rintro e w13 ⟨rfl, hb⟩; refine ⟨_, rfl, ?_⟩; replace BK385 := Ext.a (blk_below BK385.out hb); replace HB := Ext.a (below_step (Ext.s1 GE385.out HB.out) hb); (try clear hb)))
    go_ret
    exact ⟨by first | rfl | (simp [errW_none, errW_some] <;> rfl) | (simp [*, errW_none, errW_some] <;> rfl), by exact Ext.s1 GE385.out HB.out⟩
   ·
    replace c11 := Bool.eq_false_iff.mpr c11; subst c11; rw [if_neg Bool.false_ne_true] at H; replace H := Option.bind_eq_some_iff.mp H; obtain ⟨⟨t389, t390, t391, t392, t395, t398, t401⟩, A140, H⟩ := H; (try dsimp only at H); have A14 := Aside0.mk A140; clear A140; replace H := Option.bind_eq_some_iff.mp H; obtain ⟨⟨t405, t408⟩, A150, H⟩ := H; (try dsimp only at H); have A15 := Aside0.mk A150; clear A150; replace H := Option.bind_eq_some_iff.mp H; obtain ⟨t409, A160, H⟩ := H; (try dsimp only at H); have A16 := Aside0.mk A160; clear A160; have HC17 := Aside0.mk H; clear H; have hcz18 := Ext.cells7 BK385.out; have hfz18 := Ext.froz7 BK385.out
    go_upto_region 6 with (first | ((with_reducible refine gate_dst (N := 15) rfl ?_); (try (refine gate_guard (by rfl) ?_; dsimp only)); refine Ext.struct_load_blk (hgd := ?hg) (t := 28) (x := ?vx_15) (ho := ?ho) (haddr := ?ha) Try.underlying28 rfl (by kernel_rfl) BK385.out ?_; (case ho => rfl); (case hg => rfl); (case ha => rfl)) | ((with_reducible refine gate_callee (f := 11) rfl ?_); refine Ext.gs (some 16) rfl rfl Try.func11 #[.agg #[.int .i64 a0_0, .int .u64 a0_1, .int .i64 a0_2, .slice A0_3 l0_3.length c0_3, .slice A0_4 l0_4.length c0_4, .slice A0_5 l0_5.length c0_5, .slice A0_6 l0_6.length c0_6]] rfl ?_; (with_reducible refine (terrierlaw04_Of.calls kj1 a0_0 a0_1 a0_2 (fun k_ => k_ < w.heap.size) _ _ l0_3 (fun k_ => k_ < w.heap.size) _ _ l0_4 (fun k_ => k_ < w.heap.size) _ _ l0_5 (fun k_ => k_ < w.heap.size) _ _ l0_6 t389 t390 t391 t392 t395 t398 t401 _ ?side1 ?side2 ?side3 ?side4 A14.out).mono ?_); (case side1 => exact Kd.V_mk HC0_3.out (Kd.F_below (Kd.C_F k44_heap HR0_3.out) (Ext.s1 GE385.out HB.out))); (case side2 => exact Kd.V_mk HC0_4.out (Kd.F_below (Kd.C_F k60_heap HR0_4.out) (Ext.s1 GE385.out HB.out))); (case side3 => exact Kd.V_mk HC0_5.out (Kd.F_below (Kd.C_F (Kd.heap_int .u8) HR0_5.out) (Ext.s1 GE385.out HB.out))); (case side4 => exact Kd.V_mk HC0_6.out (Kd.F_below (Kd.C_F (Kd.heap_int .i64) HR0_6.out) (Ext.s1 GE385.out HB.out))); rintro e w19 ⟨v393, v396, v399, v402, rfl, ho0, ho1, ho2, ho3, hb⟩; refine ⟨_, rfl, ?_⟩; have HO394 := Ext.a (Kd.N_lower (Kd.N_mono (ok' := fun k_ => some k_ ≠ (v396 : Value).ownBlock ∧ k_ ≠ gb385) ho0 (fun k_ hk_ => ⟨hk_.2, Or.elim hk_.1 (Ext.ng4 GW385.out) (fun hn_ => (Kd.freshB BK385.out k_ hn_))⟩)) (below_size (Ext.s1 GE385.out HB.out))); have HO397 := Ext.a (Kd.N_lower (Kd.N_mono (ok' := fun k_ => some k_ ≠ (v393 : Value).ownBlock ∧ k_ ≠ gb385) ho1 (fun k_ hk_ => ⟨hk_.2, Or.elim hk_.1 (Ext.ng4 GW385.out) (fun hn_ => (Kd.freshB BK385.out k_ hn_))⟩)) (below_size (Ext.s1 GE385.out HB.out))); have HO400 := Ext.a (Kd.V_lower (Kd.V_mono (ok' := fun k_ => some k_ ≠ (v393 : Value).ownBlock ∧ some k_ ≠ (v396 : Value).ownBlock ∧ k_ ≠ gb385) ho2 (fun k_ hk_ => ⟨hk_.2.1, hk_.2.2, Or.elim hk_.1 (Ext.ng4 GW385.out) (fun hn_ => (Kd.freshB BK385.out k_ hn_))⟩)) (below_size (Ext.s1 GE385.out HB.out))); have HO403 := Ext.a (Kd.V_lower (Kd.V_mono (ok' := fun k_ => some k_ ≠ (v393 : Value).ownBlock ∧ some k_ ≠ (v396 : Value).ownBlock ∧ k_ ≠ gb385) ho3 (fun k_ hk_ => ⟨hk_.2.1, hk_.2.2, Or.elim hk_.1 (Ext.ng4 GW385.out) (fun hn_ => (Kd.freshB BK385.out k_ hn_))⟩)) (below_size (Ext.s1 GE385.out HB.out))); replace BK385 := Ext.a (blk_below BK385.out hb); replace HB := Ext.a (below_step (Ext.s1 GE385.out HB.out) hb); (try clear hb ho0 ho1 ho2 ho3)) | ((with_reducible refine gate_dst (N := 3) rfl ?_); (try (refine gate_guard (by rfl) ?_; dsimp only)); refine Ext.alloc_event (hgd := ?hg) (N := 3) (_hd := ?hd) (t := 34) (ho := ?ho) info34 ?_; (case ho => rfl); (case hd => rfl); (case hg => rfl); intro gb404 hg w20 hbox hb; replace HO394 := Ext.a (Kd.N_below (Kd.N_elderB (Ext.nN HO394.out) gb404 (Nat.le_of_eq hg.symm)) hb); replace HO397 := Ext.a (Kd.N_below (Kd.N_elderB (Ext.nN HO397.out) gb404 (Nat.le_of_eq hg.symm)) hb); replace HO400 := Ext.a (Kd.V_below (Kd.V_elderB (Ext.nV HO400.out) gb404 (Nat.le_of_eq hg.symm)) hb); replace HO403 := Ext.a (Kd.V_below (Kd.V_elderB (Ext.nV HO403.out) gb404 (Nat.le_of_eq hg.symm)) hb); have BK404 := Ext.a (hbox); have GW404 := Ext.gw hg (below_size (Ext.s1 GE385.out HB.out)); have GE404 := Ext.gw hg (below_size (Ext.s1 GE385.out HB.out)); replace HB := Ext.a (below_step (Ext.s1 GE385.out HB.out) hb); have NB385_404 := Ext.nt hg (blk_lt BK385.out); have NB404_385 := Ext.ng hg (blk_lt BK385.out); replace BK385 := Ext.a (blk_below BK385.out hb); clear hb hbox hg; have hnb21 := NB404_385.out; have hnc21 := NB385_404.out; have hcz22 := Ext.cells7 BK404.out; have hfz22 := Ext.froz7 BK404.out; obtain ⟨Ao23, co23, eo23⟩ := Kd.N_slice HO394.out; subst eo23; obtain ⟨Ao24, co24, eo24⟩ := Kd.N_slice HO397.out; subst eo24; obtain ⟨Ao25, co25, eo25⟩ := Kd.V_slice HO400.out; subst eo25; obtain ⟨Ao26, co26, eo26⟩ := Kd.V_slice HO403.out; subst eo26) | ((with_reducible refine gate_store (t := 34) (p := 3) rfl ?_); refine Ext.struct_store (hgd := ?hg) (hN := ?hn) (t := 34) (p := .tmp 3) (x := ?vo_w27) (ho := ?ho) (cells := #[.int .i64 t389, .int .u64 t390, .int .i64 t391, .slice Ao23 t392.length co23, .slice Ao24 t395.length co24, .slice Ao25 t398.length co25, .slice Ao26 t401.length co26]) (haddr := ?ha) (hx := ?hx) BK404.out rfl (by kernel_rfl) rfl ?_; (case ho => rfl); (case hg => rfl); (case hn => rfl); (case ha => rfl); (case hx => first | rfl | (go_simp; done)); intro w27 hx_ hk_ hbl_; replace HO394 := Ext.a (Kd.N_mono (Kd.N_keep (Kd.N_mono (ok := fun k_ => ((some k_ ≠ (.slice Ao24 t395.length co24 : Value).ownBlock ∧ k_ ≠ gb385) ∧ k_ ≠ gb404)) HO394.out (fun k_ hk_ => (⟨hk_, hk_.2⟩ : _ ∧ k_ ≠ gb404))) hk_ (fun _ h => h.2)) (fun _ h => h.1)); replace HO397 := Ext.a (Kd.N_mono (Kd.N_keep (Kd.N_mono (ok := fun k_ => ((some k_ ≠ (.slice Ao23 t392.length co23 : Value).ownBlock ∧ k_ ≠ gb385) ∧ k_ ≠ gb404)) HO397.out (fun k_ hk_ => (⟨hk_, hk_.2⟩ : _ ∧ k_ ≠ gb404))) hk_ (fun _ h => h.2)) (fun _ h => h.1)); replace HO400 := Ext.a (Kd.V_mono (Kd.V_keep (Kd.V_mono (ok := fun k_ => ((some k_ ≠ (.slice Ao23 t392.length co23 : Value).ownBlock ∧ (some k_ ≠ (.slice Ao24 t395.length co24 : Value).ownBlock ∧ k_ ≠ gb385)) ∧ k_ ≠ gb404)) HO400.out (fun k_ hk_ => (⟨hk_, hk_.2⟩ : _ ∧ k_ ≠ gb404))) hk_ (fun _ h => h.2)) (fun _ h => h.1)); replace HO403 := Ext.a (Kd.V_mono (Kd.V_keep (Kd.V_mono (ok := fun k_ => ((some k_ ≠ (.slice Ao23 t392.length co23 : Value).ownBlock ∧ (some k_ ≠ (.slice Ao24 t395.length co24 : Value).ownBlock ∧ k_ ≠ gb385)) ∧ k_ ≠ gb404)) HO403.out (fun k_ hk_ => (⟨hk_, hk_.2⟩ : _ ∧ k_ ≠ gb404))) hk_ (fun _ h => h.2)) (fun _ h => h.1)); replace BK385 := Ext.a (KeepBut.blk hk_ BK385.out NB385_404.out (by simp)); replace BK404 := Ext.a (hx_); replace HB := Ext.a (hbl_ _ _ HB.out GE404.out); clear hx_ hk_ hbl_; have hcz28 := Ext.cells7 BK385.out; have hfz28 := Ext.froz7 BK385.out) | ((with_reducible refine gate_dst (N := 18) rfl ?_); (try (refine gate_guard (by rfl) ?_; dsimp only)); refine Ext.struct_load_blk (hgd := ?hg) (t := 28) (x := ?vx_18) (ho := ?ho) (haddr := ?ha) Try.underlying28 rfl (by kernel_rfl) BK385.out ?_; (case ho => rfl); (case hg => rfl); (case ha => rfl)) | ((with_reducible refine gate_callee (f := 12) rfl ?_); refine Ext.gs (some 19) rfl rfl Try.func12 #[.agg #[.int .i64 a0_0, .int .u64 a0_1, .int .i64 a0_2, .slice A0_3 l0_3.length c0_3, .slice A0_4 l0_4.length c0_4, .slice A0_5 l0_5.length c0_5, .slice A0_6 l0_6.length c0_6]] rfl ?_; (with_reducible refine (page_Encode.calls kj1 a0_0 a0_1 a0_2 _ _ l0_3 _ _ l0_4 _ _ l0_5 _ _ l0_6 t405 t408 _ ?side1 ?side2 ?side3 ?side4 ?side5 ?side6 ?side7 ?side8 A15.out).mono ?_); (case side1 => first | exact Ext.kC HR0_3.out HB.out | exact Ext.nC HR0_3.out); (case side2 => exact HC0_3.out); (case side3 => first | exact Ext.kC HR0_4.out HB.out | exact Ext.nC HR0_4.out); (case side4 => exact HC0_4.out); (case side5 => first | exact Ext.kC HR0_5.out HB.out | exact Ext.nC HR0_5.out); (case side6 => exact HC0_5.out); (case side7 => first | exact Ext.kC HR0_6.out HB.out | exact Ext.nC HR0_6.out); (case side8 => exact HC0_6.out); rintro e w29 ⟨v406, rfl, ho0, hb⟩; refine ⟨_, rfl, ?_⟩; replace HO394 := Ext.a (Kd.N_elder' (Ext.nN HO394.out) (Kd.R_base ho0) hb); replace HO397 := Ext.a (Kd.N_elder' (Ext.nN HO397.out) (Kd.R_base ho0) hb); replace HO400 := Ext.a (Kd.V_elder' (Ext.nV HO400.out) (Kd.R_base ho0) hb); replace HO403 := Ext.a (Kd.V_elder' (Ext.nV HO403.out) (Kd.R_base ho0) hb); have HO407 := Ext.a (Kd.R_lower ho0 (below_size (Ext.s2 GE385.out GE404.out HB.out))); replace BK385 := Ext.a (blk_below BK385.out hb); replace BK404 := Ext.a (blk_below BK404.out hb); replace HB := Ext.a (below_step (Ext.s2 GE385.out GE404.out HB.out) hb); (try clear hb ho0); have hcz30 := Ext.cells7 BK404.out; have hfz30 := Ext.froz7 BK404.out) | ((with_reducible refine gate_dst (N := 22) rfl ?_); (try (refine gate_guard (by rfl) ?_; dsimp only)); refine Ext.struct_load_blk (hgd := ?hg) (t := 34) (x := ?vx_22) (ho := ?ho) (haddr := ?ha) Try.underlying34 rfl (by kernel_rfl) BK404.out ?_; (case ho => rfl); (case hg => rfl); (case ha => rfl)) | ((with_reducible refine gate_callee (f := 13) rfl ?_); refine Ext.gs (some 23) rfl rfl Try.func13 #[.agg #[.int .i64 t389, .int .u64 t390, .int .i64 t391, .slice Ao23 t392.length co23, .slice Ao24 t395.length co24, .slice Ao25 t398.length co25, .slice Ao26 t401.length co26]] rfl ?_; (with_reducible refine (terrierref04_Right.calls kj1 t389 t390 t391 _ _ t392 _ _ t395 _ _ t398 _ _ t401 t409 _ ?side1 ?side2 ?side3 ?side4 ?side5 ?side6 ?side7 ?side8 A16.out).mono ?_); (case side1 => exact Ext.nC (Kd.N_reads' HO394.out).2.2); (case side2 => exact (Kd.N_reads' HO394.out).2.1); (case side3 => exact Ext.nC (Kd.N_reads' HO397.out).2.2); (case side4 => exact (Kd.N_reads' HO397.out).2.1); (case side5 => exact Ext.nC (Kd.V_reads' HO400.out).2.2); (case side6 => exact (Kd.V_reads' HO400.out).2.1); (case side7 => exact Ext.nC (Kd.V_reads' HO403.out).2.2); (case side8 => exact (Kd.V_reads' HO403.out).2.1); rintro e w31 ⟨rfl, hb⟩; refine ⟨_, rfl, ?_⟩; replace HO394 := Ext.a (Kd.N_below (Ext.nN HO394.out) hb); replace HO397 := Ext.a (Kd.N_below (Ext.nN HO397.out) hb); replace HO400 := Ext.a (Kd.V_below (Ext.nV HO400.out) hb); replace HO403 := Ext.a (Kd.V_below (Ext.nV HO403.out) hb); replace HO407 := Ext.a (Kd.R_below (Ext.nR HO407.out) hb); replace BK385 := Ext.a (blk_below BK385.out hb); replace BK404 := Ext.a (blk_below BK404.out hb); replace HB := Ext.a (below_step (Ext.s2 GE385.out GE404.out HB.out) hb); (try clear hb)))
    (try simp only [Act.put, Ext.sb, Ext.sz, Ext.ss])
    go_cut [34] (fun v34 wc => ∃ (kq : Nat) (x34_16 : Bool), v34 = .bool x34_16 ∧ Aside0 (terrierlaw04_PageCodes.j1 kq t405 t408 t409 x34_16 t389 t390 t391 t392 t395 t398 t401 = some r) ∧ Aside0 (kq ≤ kj1) ∧ Aside0 (Kd.R (Kd.int .u8) 5 wc w.heap.size (fun _ => True) v406 t405) ∧ Aside0 (Kd.N k61 61 wc w.heap.size (fun k_ => some k_ ≠ (v406 : Value).ownBlock ∧ some k_ ≠ ((.slice Ao24 t395.length co24) : Value).ownBlock ∧ k_ ≠ gb385 ∧ k_ ≠ gb404) (.slice Ao23 t392.length co23) t392) ∧ Aside0 (Kd.N k62 62 wc w.heap.size (fun k_ => some k_ ≠ (v406 : Value).ownBlock ∧ some k_ ≠ ((.slice Ao23 t392.length co23) : Value).ownBlock ∧ k_ ≠ gb385 ∧ k_ ≠ gb404) (.slice Ao24 t395.length co24) t395) ∧ Aside0 (Kd.V (Kd.int .u8) 5 wc w.heap.size (fun k_ => some k_ ≠ (v406 : Value).ownBlock ∧ some k_ ≠ ((.slice Ao23 t392.length co23) : Value).ownBlock ∧ some k_ ≠ ((.slice Ao24 t395.length co24) : Value).ownBlock ∧ k_ ≠ gb385 ∧ k_ ≠ gb404) (.slice Ao25 t398.length co25) t398) ∧ Aside0 (Kd.V (Kd.int .i64) 3 wc w.heap.size (fun k_ => some k_ ≠ (v406 : Value).ownBlock ∧ some k_ ≠ ((.slice Ao23 t392.length co23) : Value).ownBlock ∧ some k_ ≠ ((.slice Ao24 t395.length co24) : Value).ownBlock ∧ k_ ≠ gb385 ∧ k_ ≠ gb404) (.slice Ao26 t401.length co26) t401) ∧ Aside0 (wc.heap[gb385]? = some (.cells #[.int .i64 a0_0, .int .u64 a0_1, .int .i64 a0_2, (.slice A0_3 l0_3.length c0_3), (.slice A0_4 l0_4.length c0_4), (.slice A0_5 l0_5.length c0_5), (.slice A0_6 l0_6.length c0_6)] 28 (0, 0))) ∧ Aside0 (wc.heap[gb404]? = some (.cells #[.int .i64 t389, .int .u64 t390, .int .i64 t391, (.slice Ao23 t392.length co23), (.slice Ao24 t395.length co24), (.slice Ao25 t398.length co25), (.slice Ao26 t401.length co26)] 34 (0, 0))) ∧ Aside0 (Below w.heap.size w wc))
    case first =>
     have H := HC17.out; clear HC17; replace H := Option.bind_eq_some_iff.mp H; obtain ⟨t410, A320, H⟩ := H; (try dsimp only at H); have A32 := Aside0.mk A320; clear A320
     by_cases c33 : (t410 != t409) = true
     ·
      rw [if_pos c33] at H; have c33b0 : (t410 != t409) = true := c33; (try (have c33b1 : decide (t410 = t409) = false := by simpa using c33)); (try (have c33b2 : (t410 == t409) = false := by simpa using c33)); (try (have c33b3 : ¬ (t410 = t409) := by simpa using c33)); clear c33
      (first | rw [c33b0] | (simp only [i64_w, i32_w]; rw [c33b0]) | skip)
      have H' := Aside0.mk H; clear H
      try go_wp2
      have n_ := Ext.a (show Kd.N k61 61 w31 w.heap.size (fun k_ => some k_ ≠ (.slice Ao24 t395.length co24 : Value).ownBlock ∧ some k_ ≠ (v406 : Value).ownBlock ∧ k_ ≠ gb385 ∧ k_ ≠ gb404) (.slice Ao23 t392.length co23) t392 from by (with_reducible repeat (first | apply Kd.N_alloc | apply Kd.N_drewN | apply Kd.N_drew)); exact Kd.N_mono HO394.out (fun _ hk => ⟨hk.1.1.1, ⟨hk.2, ⟨hk.1.1.2, hk.1.2⟩⟩⟩)); clear HO394; have HO394 := n_; clear n_; have n_ := Ext.a (show Kd.N k62 62 w31 w.heap.size (fun k_ => some k_ ≠ (.slice Ao23 t392.length co23 : Value).ownBlock ∧ some k_ ≠ (v406 : Value).ownBlock ∧ k_ ≠ gb385 ∧ k_ ≠ gb404) (.slice Ao24 t395.length co24) t395 from by (with_reducible repeat (first | apply Kd.N_alloc | apply Kd.N_drewN | apply Kd.N_drew)); exact Kd.N_mono HO397.out (fun _ hk => ⟨hk.1.1.1, ⟨hk.2, ⟨hk.1.1.2, hk.1.2⟩⟩⟩)); clear HO397; have HO397 := n_; clear n_; have n_ := Ext.a (show Kd.V (Kd.int .u8) 5 w31 w.heap.size (fun k_ => some k_ ≠ (.slice Ao23 t392.length co23 : Value).ownBlock ∧ some k_ ≠ (.slice Ao24 t395.length co24 : Value).ownBlock ∧ some k_ ≠ (v406 : Value).ownBlock ∧ k_ ≠ gb385 ∧ k_ ≠ gb404) (.slice Ao25 t398.length co25) t398 from by (with_reducible repeat (first | apply Kd.V_alloc | apply Kd.V_drewN | apply Kd.V_drew)); exact Kd.V_mono HO400.out (fun _ hk => ⟨hk.1.1.1, ⟨hk.1.1.2.1, ⟨hk.2, ⟨hk.1.1.2.2, hk.1.2⟩⟩⟩⟩)); clear HO400; have HO400 := n_; clear n_; have n_ := Ext.a (show Kd.V (Kd.int .i64) 3 w31 w.heap.size (fun k_ => some k_ ≠ (.slice Ao23 t392.length co23 : Value).ownBlock ∧ some k_ ≠ (.slice Ao24 t395.length co24 : Value).ownBlock ∧ some k_ ≠ (v406 : Value).ownBlock ∧ k_ ≠ gb385 ∧ k_ ≠ gb404) (.slice Ao26 t401.length co26) t401 from by (with_reducible repeat (first | apply Kd.V_alloc | apply Kd.V_drewN | apply Kd.V_drew)); exact Kd.V_mono HO403.out (fun _ hk => ⟨hk.1.1.1, ⟨hk.1.1.2.1, ⟨hk.2, ⟨hk.1.1.2.2, hk.1.2⟩⟩⟩⟩))
      clear HO403; have HO403 := n_; clear n_; replace HO394 := Ext.a (Kd.N_drew HO394.out); replace HO397 := Ext.a (Kd.N_drew HO397.out); replace HO400 := Ext.a (Kd.V_drew HO400.out); replace HO403 := Ext.a (Kd.V_drew HO403.out); replace HO407 := Ext.a (Kd.R_drew HO407.out); replace BK385 := Ext.a (blk_drew BK385.out); replace BK404 := Ext.a (blk_drew BK404.out); replace HB := Ext.a (below_drew1 HB.out); refine start_ (n := 11) (S := fun w' => w'.cell? ⟨gb385, 0, none⟩ = some (.int .i64 a0_0) ∧ w'.cell? ⟨gb385, 1, none⟩ = some (.int .u64 a0_1) ∧ w'.cell? ⟨gb385, 2, none⟩ = some (.int .i64 a0_2) ∧ w'.cell? ⟨gb385, 3, none⟩ = some (.slice A0_3 l0_3.length c0_3) ∧ w'.cell? ⟨gb385, 4, none⟩ = some (.slice A0_4 l0_4.length c0_4) ∧ w'.cell? ⟨gb385, 5, none⟩ = some (.slice A0_5 l0_5.length c0_5) ∧ w'.cell? ⟨gb385, 6, none⟩ = some (.slice A0_6 l0_6.length c0_6)) (ds := []) zb3_0 (by kernel_rfl) rfl rfl ⟨(blk_cell BK385.out 0).trans rfl, (blk_cell BK385.out 1).trans rfl, (blk_cell BK385.out 2).trans rfl, (blk_cell BK385.out 3).trans rfl, (blk_cell BK385.out 4).trans rfl, (blk_cell BK385.out 5).trans rfl, (blk_cell BK385.out 6).trans rfl⟩ (fun hHeld => ?_); refine with_tabW terrierlaw04_PageCodes.tab6 terrierlaw04_PageCodes.bits6 (fun HT_ HW_ => ?_); generalize w31.drew = w34 at HO394 HO397 HO400 HO403 HO407 BK385 BK404 HB hHeld ⊢; refine pure_ (i := 2) (N := some 26) (v := ?_) (a' := ?_) zb3_1 rfl rfl (any_of HT_.out (by kernel_rfl)) (fun _ _ _ h => h) (Or.inl ⟨by rfl, ?_⟩) ?_ ?_; rotate_left
      · intro w'; go_simp; with_reducible rfl
      rotate_left
      · simp only [Act.put, Ext.sb, Ext.sz, Ext.ss, i64_w, i32_w]; rfl
      refine take_ (i := 0) (N := some 24) (v := ?_) (a' := ?_) #[true, false, true, false, false, false, false, false, false, false, false] rfl rfl (take_ofW HT_.out HW_.out (by kernel_rfl)) (fun _ _ _ h => h) (Or.inl ⟨by rfl, ?_⟩) hHeld ?_ ?_; rotate_left
      · rintro w' ⟨s0, s1, s2, s3, s4, s5, s6⟩; go_simp; with_reducible rfl
      rotate_left
      · simp only [Act.put, Ext.sb, Ext.sz, Ext.ss, i64_w, i32_w]; rfl
      refine one_ (i := 1) (N := some 25) #[true, true, true, false, false, false, false, false, false, false, false] rfl rfl (one_of HT_.out (by kernel_rfl)) (by decide) (fun K hK => ?_); refine goes_ Try.func14 (by kernel_rfl) rfl #[.agg #[.int .i64 a0_0, .int .u64 a0_1, .int .i64 a0_2, .slice A0_3 l0_3.length c0_3, .slice A0_4 l0_4.length c0_4, .slice A0_5 l0_5.length c0_5, .slice A0_6 l0_6.length c0_6]] (by rfl) rfl rfl (by (try simp only [List.map_toArray, List.map_cons, List.map_nil]); first | done | rfl | (simp only [List.length_drop, List.length_take]; rfl)) ?_
      with_reducible refine (page_Right.calls kj1 a0_0 a0_1 a0_2 _ _ l0_3 _ _ l0_4 _ _ l0_5 _ _ l0_6 t410 _ ?side1 ?side2 ?side3 ?side4 ?side5 ?side6 ?side7 ?side8 A32.out).mono ?_
      (case side1 => first | exact Ext.kC HR0_3.out HB.out | exact Ext.nC HR0_3.out)
      (case side2 => exact HC0_3.out)
      (case side3 => first | exact Ext.kC HR0_4.out HB.out | exact Ext.nC HR0_4.out)
      (case side4 => exact HC0_4.out)
      (case side5 => first | exact Ext.kC HR0_5.out HB.out | exact Ext.nC HR0_5.out)
      (case side6 => exact HC0_5.out)
      (case side7 => first | exact Ext.kC HR0_6.out HB.out | exact Ext.nC HR0_6.out)
      (case side8 => exact HC0_6.out)
      rintro e w35 ⟨rfl, hb⟩; refine ⟨_, rfl, ?_⟩; replace HO394 := Ext.a (Kd.N_below (Ext.nN HO394.out) hb); replace HO397 := Ext.a (Kd.N_below (Ext.nN HO397.out) hb); replace HO400 := Ext.a (Kd.V_below (Ext.nV HO400.out) hb); replace HO403 := Ext.a (Kd.V_below (Ext.nV HO403.out) hb); replace HO407 := Ext.a (Kd.R_below (Ext.nR HO407.out) hb); replace BK385 := Ext.a (blk_below BK385.out hb); replace BK404 := Ext.a (blk_below BK404.out hb); replace HB := Ext.a (below_step (Ext.s2 GE385.out GE404.out HB.out) hb); (try clear hb); refine hK.out _ _ ⟨(blk_cell BK385.out 0).trans rfl, (blk_cell BK385.out 1).trans rfl, (blk_cell BK385.out 2).trans rfl, (blk_cell BK385.out 3).trans rfl, (blk_cell BK385.out 4).trans rfl, (blk_cell BK385.out 5).trans rfl, (blk_cell BK385.out 6).trans rfl⟩ (fun hHeld => ?_); clear hK K; refine norm_ (a' := ?_) ?_ ?_; rotate_left
      · show Act.put _ (some 25) _ = _; simp only [Act.put, Ext.sb, Ext.sz, Ext.ss, i64_w, i32_w]; rfl
      refine pure_ (i := 3) (N := some 27) (v := ?_) (a' := ?_) #[true, true, true, true, false, false, false, false, false, false, false] rfl rfl (any_of HT_.out (by kernel_rfl)) (fun _ _ _ h => h) (Or.inl ⟨by rfl, ?_⟩) ?_ ?_; rotate_left
      · intro w'; go_simp; with_reducible rfl
      rotate_left
      · simp only [Act.put, Ext.sb, Ext.sz, Ext.ss, i64_w, i32_w]; rfl
      refine pure_ (i := 4) (N := some 28) (v := ?_) (a' := ?_) #[true, true, true, true, true, false, false, false, false, false, false] rfl rfl (any_of HT_.out (by kernel_rfl)) (fun _ _ _ h => h) (Or.inl ⟨by rfl, ?_⟩) ?_ ?_; rotate_left
      · intro w'; go_simp; with_reducible rfl
      rotate_left
      · simp only [Act.put, Ext.sb, Ext.sz, Ext.ss, i64_w, i32_w]; rfl
      refine pure_ (i := 5) (N := some 29) (v := undef) (a' := ?_) #[true, true, true, true, true, true, false, false, false, false, false] rfl rfl (any_of HT_.out (by kernel_rfl)) (fun _ _ _ h => h) (Or.inr ⟨by rfl, rfl⟩) ?_ ?_; rotate_left
      · simp only [Act.put, Ext.sb, Ext.sz, Ext.ss, i64_w, i32_w]; rfl
      refine pure_ (i := 6) (N := some 30) (v := undef) (a' := ?_) #[true, true, true, true, true, true, true, false, false, false, false] rfl rfl (any_of HT_.out (by kernel_rfl)) (fun _ _ _ h => h) (Or.inr ⟨by rfl, rfl⟩) ?_ ?_; rotate_left
      · simp only [Act.put, Ext.sb, Ext.sz, Ext.ss, i64_w, i32_w]; rfl
      refine pure_ (i := 7) (N := some 31) (v := undef) (a' := ?_) #[true, true, true, true, true, true, true, true, false, false, false] rfl rfl (any_of HT_.out (by kernel_rfl)) (fun _ _ _ h => h) (Or.inr ⟨by rfl, rfl⟩) ?_ ?_; rotate_left
      · simp only [Act.put, Ext.sb, Ext.sz, Ext.ss, i64_w, i32_w]; rfl
      refine pure_ (i := 8) (N := some 32) (v := undef) (a' := ?_) #[true, true, true, true, true, true, true, true, true, false, false] rfl rfl (any_of HT_.out (by kernel_rfl)) (fun _ _ _ h => h) (Or.inr ⟨by rfl, rfl⟩) ?_ ?_; rotate_left
      · simp only [Act.put, Ext.sb, Ext.sz, Ext.ss, i64_w, i32_w]; rfl
      refine pure_ (i := 9) (N := some 33) (v := undef) (a' := ?_) #[true, true, true, true, true, true, true, true, true, true, false] rfl rfl (any_of HT_.out (by kernel_rfl)) (fun _ _ _ h => h) (Or.inr ⟨by rfl, rfl⟩) ?_ ?_; rotate_left
      · simp only [Act.put, Ext.sb, Ext.sz, Ext.ss, i64_w, i32_w]; rfl
      refine pure_ (i := 10) (N := some 34) (v := ?_) (a' := ?_) #[true, true, true, true, true, true, true, true, true, true, true] rfl rfl (any_of HT_.out (by kernel_rfl)) (fun _ _ _ h => h) (Or.inl ⟨by rfl, ?_⟩) ?_ ?_; rotate_left
      · intro w'; go_simp; with_reducible rfl
      rotate_left
      · simp only [Act.put, Ext.sb, Ext.sz, Ext.ss, i64_w, i32_w]; rfl
      refine done_ (done_of HT_.out (by kernel_rfl)) ?_
      try go_wp2
      go_meet
      case rel => exact ⟨_, (true), (by first | rfl | (simp; done) | (simp [*]; done)), H', ⟨by have := HJ1.out; first | omega | exact Nat.le_refl _⟩, ⟨by exact Ext.nR HO407.out⟩, ⟨by (with_reducible repeat (first | apply Kd.N_alloc | apply Kd.N_drewN | apply Kd.N_drew)); exact Kd.N_mono HO394.out (fun _ hk => ⟨hk.2.1, ⟨hk.1, ⟨hk.2.2.1, hk.2.2.2⟩⟩⟩)⟩, ⟨by (with_reducible repeat (first | apply Kd.N_alloc | apply Kd.N_drewN | apply Kd.N_drew)); exact Kd.N_mono HO397.out (fun _ hk => ⟨hk.2.1, ⟨hk.1, ⟨hk.2.2.1, hk.2.2.2⟩⟩⟩)⟩, ⟨by (with_reducible repeat (first | apply Kd.V_alloc | apply Kd.V_drewN | apply Kd.V_drew)); exact Kd.V_mono HO400.out (fun _ hk => ⟨hk.2.2.1, ⟨hk.1, ⟨hk.2.1, ⟨hk.2.2.2.1, hk.2.2.2.2⟩⟩⟩⟩)⟩, ⟨by (with_reducible repeat (first | apply Kd.V_alloc | apply Kd.V_drewN | apply Kd.V_drew)); exact Kd.V_mono HO403.out (fun _ hk => ⟨hk.2.2.1, ⟨hk.1, ⟨hk.2.1, ⟨hk.2.2.2.1, hk.2.2.2.2⟩⟩⟩⟩)⟩, ⟨by exact BK385.out⟩, ⟨by exact BK404.out⟩, ⟨by exact Ext.s2 GE385.out GE404.out HB.out⟩⟩
     ·
      rw [if_neg c33] at H
      have c33b0 : (t410 != t409) = false := by simpa using c33
      (try (have c33b1 : decide (t410 = t409) = true := by simpa using c33)); (try (have c33b2 : (t410 == t409) = true := by simpa using c33)); clear c33
      (first | rw [c33b0] | (simp only [i64_w, i32_w]; rw [c33b0]) | skip)
      replace H := Option.bind_eq_some_iff.mp H; obtain ⟨⟨t411, t412, t413, t414, t417, t420, t423⟩, A360, H⟩ := H; (try dsimp only at H); have A36 := Aside0.mk A360; clear A360; replace H := Option.bind_eq_some_iff.mp H; obtain ⟨t426, A370, H⟩ := H; (try dsimp only at H); have A37 := Aside0.mk A370; clear A370; have H' := Aside0.mk H; clear H
      try go_wp2
      have n_ := Ext.a (show Kd.N k61 61 w31 w.heap.size (fun k_ => some k_ ≠ (.slice Ao24 t395.length co24 : Value).ownBlock ∧ some k_ ≠ (v406 : Value).ownBlock ∧ k_ ≠ gb385 ∧ k_ ≠ gb404) (.slice Ao23 t392.length co23) t392 from by (with_reducible repeat (first | apply Kd.N_alloc | apply Kd.N_drewN | apply Kd.N_drew)); exact Kd.N_mono HO394.out (fun _ hk => ⟨hk.1.1.1, ⟨hk.2, ⟨hk.1.1.2, hk.1.2⟩⟩⟩)); clear HO394; have HO394 := n_; clear n_; have n_ := Ext.a (show Kd.N k62 62 w31 w.heap.size (fun k_ => some k_ ≠ (.slice Ao23 t392.length co23 : Value).ownBlock ∧ some k_ ≠ (v406 : Value).ownBlock ∧ k_ ≠ gb385 ∧ k_ ≠ gb404) (.slice Ao24 t395.length co24) t395 from by (with_reducible repeat (first | apply Kd.N_alloc | apply Kd.N_drewN | apply Kd.N_drew)); exact Kd.N_mono HO397.out (fun _ hk => ⟨hk.1.1.1, ⟨hk.2, ⟨hk.1.1.2, hk.1.2⟩⟩⟩)); clear HO397; have HO397 := n_; clear n_; have n_ := Ext.a (show Kd.V (Kd.int .u8) 5 w31 w.heap.size (fun k_ => some k_ ≠ (.slice Ao23 t392.length co23 : Value).ownBlock ∧ some k_ ≠ (.slice Ao24 t395.length co24 : Value).ownBlock ∧ some k_ ≠ (v406 : Value).ownBlock ∧ k_ ≠ gb385 ∧ k_ ≠ gb404) (.slice Ao25 t398.length co25) t398 from by (with_reducible repeat (first | apply Kd.V_alloc | apply Kd.V_drewN | apply Kd.V_drew)); exact Kd.V_mono HO400.out (fun _ hk => ⟨hk.1.1.1, ⟨hk.1.1.2.1, ⟨hk.2, ⟨hk.1.1.2.2, hk.1.2⟩⟩⟩⟩)); clear HO400; have HO400 := n_; clear n_; have n_ := Ext.a (show Kd.V (Kd.int .i64) 3 w31 w.heap.size (fun k_ => some k_ ≠ (.slice Ao23 t392.length co23 : Value).ownBlock ∧ some k_ ≠ (.slice Ao24 t395.length co24 : Value).ownBlock ∧ some k_ ≠ (v406 : Value).ownBlock ∧ k_ ≠ gb385 ∧ k_ ≠ gb404) (.slice Ao26 t401.length co26) t401 from by (with_reducible repeat (first | apply Kd.V_alloc | apply Kd.V_drewN | apply Kd.V_drew)); exact Kd.V_mono HO403.out (fun _ hk => ⟨hk.1.1.1, ⟨hk.1.1.2.1, ⟨hk.2, ⟨hk.1.1.2.2, hk.1.2⟩⟩⟩⟩))
      clear HO403; have HO403 := n_; clear n_; replace HO394 := Ext.a (Kd.N_drew HO394.out); replace HO397 := Ext.a (Kd.N_drew HO397.out); replace HO400 := Ext.a (Kd.V_drew HO400.out); replace HO403 := Ext.a (Kd.V_drew HO403.out); replace HO407 := Ext.a (Kd.R_drew HO407.out); replace BK385 := Ext.a (blk_drew BK385.out); replace BK404 := Ext.a (blk_drew BK404.out); replace HB := Ext.a (below_drew1 HB.out); refine start_ (n := 11) (S := fun w' => w'.cell? ⟨gb385, 0, none⟩ = some (.int .i64 a0_0) ∧ w'.cell? ⟨gb385, 1, none⟩ = some (.int .u64 a0_1) ∧ w'.cell? ⟨gb385, 2, none⟩ = some (.int .i64 a0_2) ∧ w'.cell? ⟨gb385, 3, none⟩ = some (.slice A0_3 l0_3.length c0_3) ∧ w'.cell? ⟨gb385, 4, none⟩ = some (.slice A0_4 l0_4.length c0_4) ∧ w'.cell? ⟨gb385, 5, none⟩ = some (.slice A0_5 l0_5.length c0_5) ∧ w'.cell? ⟨gb385, 6, none⟩ = some (.slice A0_6 l0_6.length c0_6) ∧ w'.cell? ⟨gb404, 0, none⟩ = some (.int .i64 t389) ∧ w'.cell? ⟨gb404, 1, none⟩ = some (.int .u64 t390) ∧ w'.cell? ⟨gb404, 2, none⟩ = some (.int .i64 t391) ∧ w'.cell? ⟨gb404, 3, none⟩ = some (.slice Ao23 t392.length co23) ∧ w'.cell? ⟨gb404, 4, none⟩ = some (.slice Ao24 t395.length co24) ∧ w'.cell? ⟨gb404, 5, none⟩ = some (.slice Ao25 t398.length co25) ∧ w'.cell? ⟨gb404, 6, none⟩ = some (.slice Ao26 t401.length co26)) (ds := []) zb3_0 (by kernel_rfl) rfl rfl ⟨(blk_cell BK385.out 0).trans rfl, (blk_cell BK385.out 1).trans rfl, (blk_cell BK385.out 2).trans rfl, (blk_cell BK385.out 3).trans rfl, (blk_cell BK385.out 4).trans rfl, (blk_cell BK385.out 5).trans rfl, (blk_cell BK385.out 6).trans rfl, (blk_cell BK404.out 0).trans rfl, (blk_cell BK404.out 1).trans rfl, (blk_cell BK404.out 2).trans rfl, (blk_cell BK404.out 3).trans rfl, (blk_cell BK404.out 4).trans rfl, (blk_cell BK404.out 5).trans rfl, (blk_cell BK404.out 6).trans rfl⟩ (fun hHeld => ?_); refine with_tabW terrierlaw04_PageCodes.tab6 terrierlaw04_PageCodes.bits6 (fun HT_ HW_ => ?_)
      generalize w31.drew = w38 at HO394 HO397 HO400 HO403 HO407 BK385 BK404 HB hHeld ⊢; refine pure_ (i := 2) (N := some 26) (v := ?_) (a' := ?_) zb3_1 rfl rfl (any_of HT_.out (by kernel_rfl)) (fun _ _ _ h => h) (Or.inl ⟨by rfl, ?_⟩) ?_ ?_; rotate_left
      · intro w'; go_simp; with_reducible rfl
      rotate_left
      · simp only [Act.put, Ext.sb, Ext.sz, Ext.ss, i64_w, i32_w]; rfl
      refine take_ (i := 0) (N := some 24) (v := ?_) (a' := ?_) #[true, false, true, false, false, false, false, false, false, false, false] rfl rfl (take_ofW HT_.out HW_.out (by kernel_rfl)) (fun _ _ _ h => h) (Or.inl ⟨by rfl, ?_⟩) hHeld ?_ ?_; rotate_left
      · rintro w' ⟨s0, s1, s2, s3, s4, s5, s6, s7, s8, s9, s10, s11, s12, s13⟩; go_simp; with_reducible rfl
      rotate_left
      · simp only [Act.put, Ext.sb, Ext.sz, Ext.ss, i64_w, i32_w]; rfl
      refine one_ (i := 1) (N := some 25) #[true, true, true, false, false, false, false, false, false, false, false] rfl rfl (one_of HT_.out (by kernel_rfl)) (by decide) (fun K hK => ?_); refine goes_ Try.func14 (by kernel_rfl) rfl #[.agg #[.int .i64 a0_0, .int .u64 a0_1, .int .i64 a0_2, .slice A0_3 l0_3.length c0_3, .slice A0_4 l0_4.length c0_4, .slice A0_5 l0_5.length c0_5, .slice A0_6 l0_6.length c0_6]] (by rfl) rfl rfl (by (try simp only [List.map_toArray, List.map_cons, List.map_nil]); first | done | rfl | (simp only [List.length_drop, List.length_take]; rfl)) ?_
      with_reducible refine (page_Right.calls kj1 a0_0 a0_1 a0_2 _ _ l0_3 _ _ l0_4 _ _ l0_5 _ _ l0_6 t410 _ ?side1 ?side2 ?side3 ?side4 ?side5 ?side6 ?side7 ?side8 A32.out).mono ?_
      (case side1 => first | exact Ext.kC HR0_3.out HB.out | exact Ext.nC HR0_3.out)
      (case side2 => exact HC0_3.out)
      (case side3 => first | exact Ext.kC HR0_4.out HB.out | exact Ext.nC HR0_4.out)
      (case side4 => exact HC0_4.out)
      (case side5 => first | exact Ext.kC HR0_5.out HB.out | exact Ext.nC HR0_5.out)
      (case side6 => exact HC0_5.out)
      (case side7 => first | exact Ext.kC HR0_6.out HB.out | exact Ext.nC HR0_6.out)
      (case side8 => exact HC0_6.out)
      rintro e w39 ⟨rfl, hb⟩; refine ⟨_, rfl, ?_⟩; replace HO394 := Ext.a (Kd.N_below (Ext.nN HO394.out) hb); replace HO397 := Ext.a (Kd.N_below (Ext.nN HO397.out) hb); replace HO400 := Ext.a (Kd.V_below (Ext.nV HO400.out) hb); replace HO403 := Ext.a (Kd.V_below (Ext.nV HO403.out) hb); replace HO407 := Ext.a (Kd.R_below (Ext.nR HO407.out) hb); replace BK385 := Ext.a (blk_below BK385.out hb); replace BK404 := Ext.a (blk_below BK404.out hb); replace HB := Ext.a (below_step (Ext.s2 GE385.out GE404.out HB.out) hb); (try clear hb); refine hK.out _ _ ⟨(blk_cell BK385.out 0).trans rfl, (blk_cell BK385.out 1).trans rfl, (blk_cell BK385.out 2).trans rfl, (blk_cell BK385.out 3).trans rfl, (blk_cell BK385.out 4).trans rfl, (blk_cell BK385.out 5).trans rfl, (blk_cell BK385.out 6).trans rfl, (blk_cell BK404.out 0).trans rfl, (blk_cell BK404.out 1).trans rfl, (blk_cell BK404.out 2).trans rfl, (blk_cell BK404.out 3).trans rfl, (blk_cell BK404.out 4).trans rfl, (blk_cell BK404.out 5).trans rfl, (blk_cell BK404.out 6).trans rfl⟩ (fun hHeld => ?_); clear hK K; refine norm_ (a' := ?_) ?_ ?_; rotate_left
      · show Act.put _ (some 25) _ = _; simp only [Act.put, Ext.sb, Ext.sz, Ext.ss, i64_w, i32_w]; rfl
      refine pure_ (i := 3) (N := some 27) (v := ?_) (a' := ?_) #[true, true, true, true, false, false, false, false, false, false, false] rfl rfl (any_of HT_.out (by kernel_rfl)) (fun _ _ _ h => h) (Or.inl ⟨by rfl, ?_⟩) ?_ ?_; rotate_left
      · intro w'; go_simp; with_reducible rfl
      rotate_left
      · simp only [Act.put, Ext.sb, Ext.sz, Ext.ss, i64_w, i32_w]; rfl
      refine pure_ (i := 4) (N := some 28) (v := ?_) (a' := ?_) #[true, true, true, true, true, false, false, false, false, false, false] rfl rfl (any_of HT_.out (by kernel_rfl)) (fun _ _ _ h => h) (Or.inl ⟨by rfl, ?_⟩) ?_ ?_; rotate_left
      · intro w'; go_simp; with_reducible rfl
      rotate_left
      · simp only [Act.put, Ext.sb, Ext.sz, Ext.ss, i64_w, i32_w]; rfl
      refine take_ (i := 5) (N := some 29) (v := ?_) (a' := ?_) #[true, true, true, true, true, true, false, false, false, false, false] rfl rfl (take_ofW HT_.out HW_.out (by kernel_rfl)) (fun _ _ _ h => h) (Or.inl ⟨by rfl, ?_⟩) hHeld ?_ ?_; rotate_left
      · rintro w' ⟨s0, s1, s2, s3, s4, s5, s6, s7, s8, s9, s10, s11, s12, s13⟩; go_simp; with_reducible rfl
      rotate_left
      · simp only [Act.put, Ext.sb, Ext.sz, Ext.ss, i64_w, i32_w]; rfl
      refine take_ (i := 7) (N := some 31) (v := ?_) (a' := ?_) #[true, true, true, true, true, true, false, true, false, false, false] rfl rfl (take_ofW HT_.out HW_.out (by kernel_rfl)) (fun _ _ _ h => h) (Or.inl ⟨by rfl, ?_⟩) hHeld ?_ ?_; rotate_left
      · rintro w' ⟨s0, s1, s2, s3, s4, s5, s6, s7, s8, s9, s10, s11, s12, s13⟩; go_simp; with_reducible rfl
      rotate_left
      · simp only [Act.put, Ext.sb, Ext.sz, Ext.ss, i64_w, i32_w]; rfl
      refine one_ (i := 6) (N := some 30) #[true, true, true, true, true, true, true, true, false, false, false] rfl rfl (one_of HT_.out (by kernel_rfl)) (by decide) (fun K hK => ?_); refine goes_ Try.func11 (by kernel_rfl) rfl #[.agg #[.int .i64 a0_0, .int .u64 a0_1, .int .i64 a0_2, .slice A0_3 l0_3.length c0_3, .slice A0_4 l0_4.length c0_4, .slice A0_5 l0_5.length c0_5, .slice A0_6 l0_6.length c0_6]] (by rfl) rfl rfl (by (try simp only [List.map_toArray, List.map_cons, List.map_nil]); first | done | rfl | (simp only [List.length_drop, List.length_take]; rfl)) ?_
      with_reducible refine (terrierlaw04_Of.calls kj1 a0_0 a0_1 a0_2 (fun k_ => k_ < w.heap.size) _ _ l0_3 (fun k_ => k_ < w.heap.size) _ _ l0_4 (fun k_ => k_ < w.heap.size) _ _ l0_5 (fun k_ => k_ < w.heap.size) _ _ l0_6 t411 t412 t413 t414 t417 t420 t423 _ ?side1 ?side2 ?side3 ?side4 A36.out).mono ?_
      (case side1 => exact Kd.V_mk HC0_3.out (Kd.F_below (Kd.C_F k44_heap HR0_3.out) (Ext.s2 GE385.out GE404.out HB.out)))
      (case side2 => exact Kd.V_mk HC0_4.out (Kd.F_below (Kd.C_F k60_heap HR0_4.out) (Ext.s2 GE385.out GE404.out HB.out)))
      (case side3 => exact Kd.V_mk HC0_5.out (Kd.F_below (Kd.C_F (Kd.heap_int .u8) HR0_5.out) (Ext.s2 GE385.out GE404.out HB.out)))
      (case side4 => exact Kd.V_mk HC0_6.out (Kd.F_below (Kd.C_F (Kd.heap_int .i64) HR0_6.out) (Ext.s2 GE385.out GE404.out HB.out)))
      rintro e w40 ⟨v415, v418, v421, v424, rfl, ho0, ho1, ho2, ho3, hb⟩; refine ⟨_, rfl, ?_⟩; replace HO400 := Ext.a (Kd.V_mono (Kd.V_told (Kd.V_told (Kd.V_old (Ext.nV HO400.out) hb) (Kd.N_base ho0)) (Kd.N_base ho1)) (fun _ h_ => h_.1)); replace HO403 := Ext.a (Kd.V_mono (Kd.V_told (Kd.V_told (Kd.V_old (Ext.nV HO403.out) hb) (Kd.N_base ho0)) (Kd.N_base ho1)) (fun _ h_ => h_.1)); have HO416 := Ext.a (Kd.N_lower (Kd.N_mono (ok' := fun k_ => some k_ ≠ (v418 : Value).ownBlock ∧ some k_ ≠ (.slice Ao23 t392.length co23 : Value).ownBlock ∧ some k_ ≠ (.slice Ao24 t395.length co24 : Value).ownBlock ∧ some k_ ≠ (v406 : Value).ownBlock ∧ k_ ≠ gb385 ∧ k_ ≠ gb404) ho0 (fun k_ hk_ => ⟨hk_.2, Or.elim hk_.1 (Ext.no4 (Kd.N_base HO394.out)) (Kd.fresh' (Kd.N_lt (Ext.nN HO394.out)) k_), Or.elim hk_.1 (Ext.no4 (Kd.N_base HO397.out)) (Kd.fresh' (Kd.N_lt (Ext.nN HO397.out)) k_), Or.elim hk_.1 (Ext.no4 (Kd.R_base HO407.out)) (Kd.fresh' (Kd.R_lt (Ext.nR HO407.out)) k_), Or.elim hk_.1 (Ext.ng4 GW385.out) (fun hn_ => (Kd.freshB BK385.out k_ hn_)), Or.elim hk_.1 (Ext.ng4 GW404.out) (fun hn_ => (Kd.freshB BK404.out k_ hn_))⟩)) (below_size (Ext.s2 GE385.out GE404.out HB.out)))
      have HO419 := Ext.a (Kd.N_lower (Kd.N_mono (ok' := fun k_ => some k_ ≠ (v415 : Value).ownBlock ∧ some k_ ≠ (.slice Ao23 t392.length co23 : Value).ownBlock ∧ some k_ ≠ (.slice Ao24 t395.length co24 : Value).ownBlock ∧ some k_ ≠ (v406 : Value).ownBlock ∧ k_ ≠ gb385 ∧ k_ ≠ gb404) ho1 (fun k_ hk_ => ⟨hk_.2, Or.elim hk_.1 (Ext.no4 (Kd.N_base HO394.out)) (Kd.fresh' (Kd.N_lt (Ext.nN HO394.out)) k_), Or.elim hk_.1 (Ext.no4 (Kd.N_base HO397.out)) (Kd.fresh' (Kd.N_lt (Ext.nN HO397.out)) k_), Or.elim hk_.1 (Ext.no4 (Kd.R_base HO407.out)) (Kd.fresh' (Kd.R_lt (Ext.nR HO407.out)) k_), Or.elim hk_.1 (Ext.ng4 GW385.out) (fun hn_ => (Kd.freshB BK385.out k_ hn_)), Or.elim hk_.1 (Ext.ng4 GW404.out) (fun hn_ => (Kd.freshB BK404.out k_ hn_))⟩)) (below_size (Ext.s2 GE385.out GE404.out HB.out)))
      have HO422 := Ext.a (Kd.V_lower (Kd.V_mono (ok' := fun k_ => some k_ ≠ (v415 : Value).ownBlock ∧ some k_ ≠ (v418 : Value).ownBlock ∧ some k_ ≠ (.slice Ao23 t392.length co23 : Value).ownBlock ∧ some k_ ≠ (.slice Ao24 t395.length co24 : Value).ownBlock ∧ some k_ ≠ (v406 : Value).ownBlock ∧ k_ ≠ gb385 ∧ k_ ≠ gb404) ho2 (fun k_ hk_ => ⟨hk_.2.1, hk_.2.2, Or.elim hk_.1 (Ext.no4 (Kd.N_base HO394.out)) (Kd.fresh' (Kd.N_lt (Ext.nN HO394.out)) k_), Or.elim hk_.1 (Ext.no4 (Kd.N_base HO397.out)) (Kd.fresh' (Kd.N_lt (Ext.nN HO397.out)) k_), Or.elim hk_.1 (Ext.no4 (Kd.R_base HO407.out)) (Kd.fresh' (Kd.R_lt (Ext.nR HO407.out)) k_), Or.elim hk_.1 (Ext.ng4 GW385.out) (fun hn_ => (Kd.freshB BK385.out k_ hn_)), Or.elim hk_.1 (Ext.ng4 GW404.out) (fun hn_ => (Kd.freshB BK404.out k_ hn_))⟩)) (below_size (Ext.s2 GE385.out GE404.out HB.out)))
      have HO425 := Ext.a (Kd.V_lower (Kd.V_mono (ok' := fun k_ => some k_ ≠ (v415 : Value).ownBlock ∧ some k_ ≠ (v418 : Value).ownBlock ∧ some k_ ≠ (.slice Ao23 t392.length co23 : Value).ownBlock ∧ some k_ ≠ (.slice Ao24 t395.length co24 : Value).ownBlock ∧ some k_ ≠ (v406 : Value).ownBlock ∧ k_ ≠ gb385 ∧ k_ ≠ gb404) ho3 (fun k_ hk_ => ⟨hk_.2.1, hk_.2.2, Or.elim hk_.1 (Ext.no4 (Kd.N_base HO394.out)) (Kd.fresh' (Kd.N_lt (Ext.nN HO394.out)) k_), Or.elim hk_.1 (Ext.no4 (Kd.N_base HO397.out)) (Kd.fresh' (Kd.N_lt (Ext.nN HO397.out)) k_), Or.elim hk_.1 (Ext.no4 (Kd.R_base HO407.out)) (Kd.fresh' (Kd.R_lt (Ext.nR HO407.out)) k_), Or.elim hk_.1 (Ext.ng4 GW385.out) (fun hn_ => (Kd.freshB BK385.out k_ hn_)), Or.elim hk_.1 (Ext.ng4 GW404.out) (fun hn_ => (Kd.freshB BK404.out k_ hn_))⟩)) (below_size (Ext.s2 GE385.out GE404.out HB.out)))
      replace HO394 := Ext.a (Kd.N_mono (Kd.N_told (Kd.N_told (Kd.N_old (Ext.nN HO394.out) hb) (Kd.N_base ho0)) (Kd.N_base ho1)) (fun _ h_ => h_.1)); replace HO397 := Ext.a (Kd.N_mono (Kd.N_told (Kd.N_told (Kd.N_old (Ext.nN HO397.out) hb) (Kd.N_base ho0)) (Kd.N_base ho1)) (fun _ h_ => h_.1)); replace HO407 := Ext.a (Kd.R_below (Ext.nR HO407.out) hb); replace BK385 := Ext.a (blk_below BK385.out hb); replace BK404 := Ext.a (blk_below BK404.out hb); replace HB := Ext.a (below_step (Ext.s2 GE385.out GE404.out HB.out) hb); (try clear hb ho0 ho1 ho2 ho3); obtain ⟨Ao41, co41, eo41⟩ := Kd.N_slice HO416.out
      (first | subst eo41 | (injection eo41 with f1_ f2_ f3_; have f4_ := f1_.symm; have f5_ := f3_.symm; clear f1_ f2_ f3_; subst f4_; subst f5_))
      obtain ⟨Ao42, co42, eo42⟩ := Kd.N_slice HO419.out
      (first | subst eo42 | (injection eo42 with f1_ f2_ f3_; have f4_ := f1_.symm; have f5_ := f3_.symm; clear f1_ f2_ f3_; subst f4_; subst f5_))
      obtain ⟨Ao43, co43, eo43⟩ := Kd.V_slice HO422.out
      (first | subst eo43 | (injection eo43 with f1_ f2_ f3_; have f4_ := f1_.symm; have f5_ := f3_.symm; clear f1_ f2_ f3_; subst f4_; subst f5_))
      obtain ⟨Ao44, co44, eo44⟩ := Kd.V_slice HO425.out
      (first | subst eo44 | (injection eo44 with f1_ f2_ f3_; have f4_ := f1_.symm; have f5_ := f3_.symm; clear f1_ f2_ f3_; subst f4_; subst f5_))
      refine hK.out _ _ ⟨(blk_cell BK385.out 0).trans rfl, (blk_cell BK385.out 1).trans rfl, (blk_cell BK385.out 2).trans rfl, (blk_cell BK385.out 3).trans rfl, (blk_cell BK385.out 4).trans rfl, (blk_cell BK385.out 5).trans rfl, (blk_cell BK385.out 6).trans rfl, (blk_cell BK404.out 0).trans rfl, (blk_cell BK404.out 1).trans rfl, (blk_cell BK404.out 2).trans rfl, (blk_cell BK404.out 3).trans rfl, (blk_cell BK404.out 4).trans rfl, (blk_cell BK404.out 5).trans rfl, (blk_cell BK404.out 6).trans rfl⟩ (fun hHeld => ?_); clear hK K; refine norm_ (a' := ?_) ?_ ?_; rotate_left
      · show Act.put _ (some 30) _ = _; simp only [Act.put, Ext.sb, Ext.sz, Ext.ss, i64_w, i32_w]; rfl
      refine one_ (i := 8) (N := some 32) #[true, true, true, true, true, true, true, true, true, false, false] rfl rfl (one_of HT_.out (by kernel_rfl)) (by decide) (fun K hK => ?_); refine goes_ Try.func15 (by kernel_rfl) rfl #[.agg #[.int .i64 t411, .int .u64 t412, .int .i64 t413, .slice Ao41 t414.length co41, .slice Ao42 t417.length co42, .slice Ao43 t420.length co43, .slice Ao44 t423.length co44], .agg #[.int .i64 t389, .int .u64 t390, .int .i64 t391, .slice Ao23 t392.length co23, .slice Ao24 t395.length co24, .slice Ao25 t398.length co25, .slice Ao26 t401.length co26]] (by rfl) rfl rfl (by (try simp only [List.map_toArray, List.map_cons, List.map_nil]); first | done | rfl | (simp only [List.length_drop, List.length_take]; rfl)) ?_
      with_reducible refine (terrierref04_Same.calls kj1 t411 t412 t413 _ _ t414 _ _ t417 _ _ t420 _ _ t423 t389 t390 t391 _ _ t392 _ _ t395 _ _ t398 _ _ t401 t426 _ ?side1 ?side2 ?side3 ?side4 ?side5 ?side6 ?side7 ?side8 ?side9 ?side10 ?side11 ?side12 ?side13 ?side14 ?side15 ?side16 A37.out).mono ?_
      (case side1 => exact Ext.nC (Kd.N_reads' HO416.out).2.2)
      (case side2 => exact (Kd.N_reads' HO416.out).2.1)
      (case side3 => exact Ext.nC (Kd.N_reads' HO419.out).2.2)
      (case side4 => exact (Kd.N_reads' HO419.out).2.1)
      (case side5 => exact Ext.nC (Kd.V_reads' HO422.out).2.2)
      (case side6 => exact (Kd.V_reads' HO422.out).2.1)
      (case side7 => exact Ext.nC (Kd.V_reads' HO425.out).2.2)
      (case side8 => exact (Kd.V_reads' HO425.out).2.1)
      (case side9 => exact Ext.nC (Kd.N_reads' HO394.out).2.2)
      (case side10 => exact (Kd.N_reads' HO394.out).2.1)
      (case side11 => exact Ext.nC (Kd.N_reads' HO397.out).2.2)
      (case side12 => exact (Kd.N_reads' HO397.out).2.1)
      (case side13 => exact Ext.nC (Kd.V_reads' HO400.out).2.2)
      (case side14 => exact (Kd.V_reads' HO400.out).2.1)
      (case side15 => exact Ext.nC (Kd.V_reads' HO403.out).2.2)
      (case side16 => exact (Kd.V_reads' HO403.out).2.1)
      rintro e w45 ⟨rfl, hb⟩; refine ⟨_, rfl, ?_⟩; replace HO394 := Ext.a (Kd.N_below (Ext.nN HO394.out) hb); replace HO397 := Ext.a (Kd.N_below (Ext.nN HO397.out) hb); replace HO400 := Ext.a (Kd.V_below (Ext.nV HO400.out) hb); replace HO403 := Ext.a (Kd.V_below (Ext.nV HO403.out) hb); replace HO407 := Ext.a (Kd.R_below (Ext.nR HO407.out) hb); replace HO416 := Ext.a (Kd.N_below (Ext.nN HO416.out) hb); replace HO419 := Ext.a (Kd.N_below (Ext.nN HO419.out) hb); replace HO422 := Ext.a (Kd.V_below (Ext.nV HO422.out) hb); replace HO425 := Ext.a (Kd.V_below (Ext.nV HO425.out) hb); replace BK385 := Ext.a (blk_below BK385.out hb); replace BK404 := Ext.a (blk_below BK404.out hb); replace HB := Ext.a (below_step (Ext.s2 GE385.out GE404.out HB.out) hb); (try clear hb); refine hK.out _ _ ⟨(blk_cell BK385.out 0).trans rfl, (blk_cell BK385.out 1).trans rfl, (blk_cell BK385.out 2).trans rfl, (blk_cell BK385.out 3).trans rfl, (blk_cell BK385.out 4).trans rfl, (blk_cell BK385.out 5).trans rfl, (blk_cell BK385.out 6).trans rfl, (blk_cell BK404.out 0).trans rfl, (blk_cell BK404.out 1).trans rfl, (blk_cell BK404.out 2).trans rfl, (blk_cell BK404.out 3).trans rfl, (blk_cell BK404.out 4).trans rfl, (blk_cell BK404.out 5).trans rfl, (blk_cell BK404.out 6).trans rfl⟩ (fun hHeld => ?_); clear hK K; refine norm_ (a' := ?_) ?_ ?_; rotate_left
      · show Act.put _ (some 32) _ = _; simp only [Act.put, Ext.sb, Ext.sz, Ext.ss, i64_w, i32_w]; rfl
      refine pure_ (i := 9) (N := some 33) (v := ?_) (a' := ?_) #[true, true, true, true, true, true, true, true, true, true, false] rfl rfl (any_of HT_.out (by kernel_rfl)) (fun _ _ _ h => h) (Or.inl ⟨by rfl, ?_⟩) ?_ ?_; rotate_left
      · intro w'; go_simp; with_reducible rfl
      rotate_left
      · simp only [Act.put, Ext.sb, Ext.sz, Ext.ss, i64_w, i32_w]; rfl
      refine pure_ (i := 10) (N := some 34) (v := ?_) (a' := ?_) #[true, true, true, true, true, true, true, true, true, true, true] rfl rfl (any_of HT_.out (by kernel_rfl)) (fun _ _ _ h => h) (Or.inl ⟨by rfl, ?_⟩) ?_ ?_; rotate_left
      · intro w'; go_simp; with_reducible rfl
      rotate_left
      · simp only [Act.put, Ext.sb, Ext.sz, Ext.ss, i64_w, i32_w]; rfl
      refine done_ (done_of HT_.out (by kernel_rfl)) ?_
      try go_wp2
      go_meet
      case rel => exact ⟨_, (!t426), (by first | rfl | (simp; done) | (simp [*]; done)), H', ⟨by have := HJ1.out; first | omega | exact Nat.le_refl _⟩, ⟨by exact Ext.nR HO407.out⟩, ⟨by (with_reducible repeat (first | apply Kd.N_alloc | apply Kd.N_drewN | apply Kd.N_drew)); exact Kd.N_mono HO394.out (fun _ hk => ⟨hk.1.1.2.1, ⟨hk.1.1.1, ⟨hk.1.1.2.2.1, hk.1.1.2.2.2⟩⟩⟩)⟩, ⟨by (with_reducible repeat (first | apply Kd.N_alloc | apply Kd.N_drewN | apply Kd.N_drew)); exact Kd.N_mono HO397.out (fun _ hk => ⟨hk.1.1.2.1, ⟨hk.1.1.1, ⟨hk.1.1.2.2.1, hk.1.1.2.2.2⟩⟩⟩)⟩, ⟨by (with_reducible repeat (first | apply Kd.V_alloc | apply Kd.V_drewN | apply Kd.V_drew)); exact Kd.V_mono HO400.out (fun _ hk => ⟨hk.1.1.2.2.1, ⟨hk.1.1.1, ⟨hk.1.1.2.1, ⟨hk.1.1.2.2.2.1, hk.1.1.2.2.2.2⟩⟩⟩⟩)⟩, ⟨by (with_reducible repeat (first | apply Kd.V_alloc | apply Kd.V_drewN | apply Kd.V_drew)); exact Kd.V_mono HO403.out (fun _ hk => ⟨hk.1.1.2.2.1, ⟨hk.1.1.1, ⟨hk.1.1.2.1, ⟨hk.1.1.2.2.2.1, hk.1.1.2.2.2.2⟩⟩⟩⟩)⟩, ⟨by exact BK385.out⟩, ⟨by exact BK404.out⟩, ⟨by exact Ext.s2 GE385.out GE404.out HB.out⟩⟩
    case rest =>
     clear HC17; (try clear c1 c2 c12 c13 c14 c15 c21 c33b0 c33b1 c33b2 hcz18 hcz22 hcz28 hcz30 hfz18 hfz22 hfz28 hfz30); obtain ⟨kq, x34_16, rfl, HA, HJ16, HO_4, HO_405003, HO_405004, HO_405005, HO_405006, BK385, BK404, HB⟩ := hcut; cases kq with
     | zero => exact absurd HA.out (by simp [terrierlaw04_PageCodes.j1])
     | succ kj16 =>
      have H := HA.out; clear HA; simp only [terrierlaw04_PageCodes.j1] at H
      by_cases c46 : x34_16 = true
      ·
       subst c46; rw [if_pos rfl] at H; obtain rfl := Option.some.inj H
       go_wp2
       go_ret
       exact ⟨by first | rfl | (simp [errW_none, errW_some] <;> rfl) | (simp [*, errW_none, errW_some] <;> rfl), by exact Ext.s2 GE385.out GE404.out HB.out⟩
      ·
       replace c46 := Bool.eq_false_iff.mpr c46; subst c46; rw [if_neg Bool.false_ne_true] at H
       by_cases c47 : t409 = true
       ·
        subst c47; rw [if_pos rfl] at H
        by_cases c48 : t408 = 0
        ·
         rw [if_pos c48] at H; obtain ⟨c48b0, c48b1⟩ := Ext.eT c48; clear c48; replace H := Option.bind_eq_some_iff.mp H; obtain ⟨t427, A490, H⟩ := H; (try dsimp only at H); have A49 := Aside0.mk A490; clear A490; replace H := Option.bind_eq_some_iff.mp H; obtain ⟨t430, A500, H⟩ := H; (try dsimp only at H); have A50 := Aside0.mk A500; clear A500
         by_cases c51 : t430 = true
         ·
          subst c51; rw [if_pos rfl] at H; obtain rfl := Option.some.inj H; have hnb52 := NB404_385.out; have hnc52 := NB385_404.out; have hcz53 := Ext.cells7 BK404.out; have hfz53 := Ext.froz7 BK404.out
          go_wp2_with (first | ((with_reducible refine gate_dst (N := 42) rfl ?_); (try (refine gate_guard (by rfl) ?_; dsimp only)); refine Ext.struct_load_blk (hgd := ?hg) (t := 34) (x := ?vx_42) (ho := ?ho) (haddr := ?ha) Try.underlying34 rfl (by kernel_rfl) BK404.out ?_; (case ho => rfl); (case hg => rfl); (case ha => rfl)) | (go_at_call 17; (with_reducible refine (terrierref04_Encode.calls kj16 t389 t390 t391 _ _ t392 _ _ t395 _ _ t398 _ _ t401 t427 _ ?side1 ?side2 ?side3 ?side4 ?side5 ?side6 ?side7 ?side8 A49.out).mono ?_); (case side1 => exact Ext.nC (Kd.N_reads' HO_405003.out).2.2); (case side2 => exact (Kd.N_reads' HO_405003.out).2.1); (case side3 => exact Ext.nC (Kd.N_reads' HO_405004.out).2.2); (case side4 => exact (Kd.N_reads' HO_405004.out).2.1); (case side5 => exact Ext.nC (Kd.V_reads' HO_405005.out).2.2); (case side6 => exact (Kd.V_reads' HO_405005.out).2.1); (case side7 => exact Ext.nC (Kd.V_reads' HO_405006.out).2.2); (case side8 => exact (Kd.V_reads' HO_405006.out).2.1); rintro e w54 ⟨v428, rfl, ho0, hb⟩; replace HO_405003 := Ext.a (Kd.N_elder' (Ext.nN HO_405003.out) (Kd.R_base ho0) hb); replace HO_405004 := Ext.a (Kd.N_elder' (Ext.nN HO_405004.out) (Kd.R_base ho0) hb); replace HO_405005 := Ext.a (Kd.V_elder' (Ext.nV HO_405005.out) (Kd.R_base ho0) hb); replace HO_405006 := Ext.a (Kd.V_elder' (Ext.nV HO_405006.out) (Kd.R_base ho0) hb); have HO429 := Ext.a (Kd.R_lower (Kd.R_new' ho0 (Kd.R_lt (Ext.nR HO_4.out))) (below_size (Ext.s2 GE385.out GE404.out HB.out))); replace HO_4 := Ext.a (Kd.R_elder' (Ext.nR HO_4.out) (Kd.R_base ho0) hb); replace BK385 := Ext.a (blk_below BK385.out hb); replace BK404 := Ext.a (blk_below BK404.out hb); replace HB := Ext.a (below_step (Ext.s2 GE385.out GE404.out HB.out) hb); (try clear hb ho0); obtain ⟨Ao55, co55, eo55⟩ := Kd.R_slice HO_4.out; subst eo55; obtain ⟨Ao56, co56, eo56⟩ := Kd.R_slice HO429.out; subst eo56) | (go_at_call 16; (with_reducible refine (terrierref01_Same.calls _ _ t405 _ _ t427 true _ ?side1 ?side2 ?side3 ?side4 A50.out).mono ?_); (case side1 => exact Ext.nC (Kd.R_reads' HO_4.out).2.2); (case side2 => exact (Kd.R_reads' HO_4.out).2.1); (case side3 => exact Ext.nC (Kd.R_reads' HO429.out).2.2); (case side4 => exact (Kd.R_reads' HO429.out).2.1); rintro e w' ⟨rfl, ⟨nd, rfl⟩⟩))
          go_ret
          exact ⟨by first | rfl | (simp [errW_none, errW_some] <;> rfl) | (simp [*, errW_none, errW_some] <;> rfl), by exact Ext.s2 GE385.out GE404.out HB.out⟩
         ·
          replace c51 := Bool.eq_false_iff.mpr c51; subst c51; rw [if_neg Bool.false_ne_true] at H; obtain rfl := Option.some.inj H; have hnb57 := NB404_385.out; have hnc57 := NB385_404.out; have hcz58 := Ext.cells7 BK404.out; have hfz58 := Ext.froz7 BK404.out
          go_wp2_with (first | ((with_reducible refine gate_dst (N := 42) rfl ?_); (try (refine gate_guard (by rfl) ?_; dsimp only)); refine Ext.struct_load_blk (hgd := ?hg) (t := 34) (x := ?vx_42) (ho := ?ho) (haddr := ?ha) Try.underlying34 rfl (by kernel_rfl) BK404.out ?_; (case ho => rfl); (case hg => rfl); (case ha => rfl)) | (go_at_call 17; (with_reducible refine (terrierref04_Encode.calls kj16 t389 t390 t391 _ _ t392 _ _ t395 _ _ t398 _ _ t401 t427 _ ?side1 ?side2 ?side3 ?side4 ?side5 ?side6 ?side7 ?side8 A49.out).mono ?_); (case side1 => exact Ext.nC (Kd.N_reads' HO_405003.out).2.2); (case side2 => exact (Kd.N_reads' HO_405003.out).2.1); (case side3 => exact Ext.nC (Kd.N_reads' HO_405004.out).2.2); (case side4 => exact (Kd.N_reads' HO_405004.out).2.1); (case side5 => exact Ext.nC (Kd.V_reads' HO_405005.out).2.2); (case side6 => exact (Kd.V_reads' HO_405005.out).2.1); (case side7 => exact Ext.nC (Kd.V_reads' HO_405006.out).2.2); (case side8 => exact (Kd.V_reads' HO_405006.out).2.1); rintro e w59 ⟨v428, rfl, ho0, hb⟩; replace HO_405003 := Ext.a (Kd.N_elder' (Ext.nN HO_405003.out) (Kd.R_base ho0) hb); replace HO_405004 := Ext.a (Kd.N_elder' (Ext.nN HO_405004.out) (Kd.R_base ho0) hb); replace HO_405005 := Ext.a (Kd.V_elder' (Ext.nV HO_405005.out) (Kd.R_base ho0) hb); replace HO_405006 := Ext.a (Kd.V_elder' (Ext.nV HO_405006.out) (Kd.R_base ho0) hb); have HO429 := Ext.a (Kd.R_lower (Kd.R_new' ho0 (Kd.R_lt (Ext.nR HO_4.out))) (below_size (Ext.s2 GE385.out GE404.out HB.out))); replace HO_4 := Ext.a (Kd.R_elder' (Ext.nR HO_4.out) (Kd.R_base ho0) hb); replace BK385 := Ext.a (blk_below BK385.out hb); replace BK404 := Ext.a (blk_below BK404.out hb); replace HB := Ext.a (below_step (Ext.s2 GE385.out GE404.out HB.out) hb); (try clear hb ho0); obtain ⟨Ao60, co60, eo60⟩ := Kd.R_slice HO_4.out; subst eo60; obtain ⟨Ao61, co61, eo61⟩ := Kd.R_slice HO429.out; subst eo61) | (go_at_call 16; (with_reducible refine (terrierref01_Same.calls _ _ t405 _ _ t427 false _ ?side1 ?side2 ?side3 ?side4 A50.out).mono ?_); (case side1 => exact Ext.nC (Kd.R_reads' HO_4.out).2.2); (case side2 => exact (Kd.R_reads' HO_4.out).2.1); (case side3 => exact Ext.nC (Kd.R_reads' HO429.out).2.2); (case side4 => exact (Kd.R_reads' HO429.out).2.1); rintro e w' ⟨rfl, ⟨nd, rfl⟩⟩))
          go_ret
          exact ⟨by first | rfl | (simp [errW_none, errW_some] <;> rfl) | (simp [*, errW_none, errW_some] <;> rfl), by exact Ext.s2 GE385.out GE404.out HB.out⟩
        ·
         rw [if_neg c48] at H; obtain ⟨c48b0, c48b1⟩ := Ext.eF c48; obtain rfl := Option.some.inj H
         go_wp2
         go_ret
         exact ⟨by first | rfl | (simp [errW_none, errW_some] <;> rfl) | (simp [*, errW_none, errW_some] <;> rfl), by exact Ext.s2 GE385.out GE404.out HB.out⟩
       ·
        replace c47 := Bool.eq_false_iff.mpr c47; subst c47; rw [if_neg Bool.false_ne_true] at H
        by_cases c62 : t408 = 4
        ·
         rw [if_pos c62] at H; obtain ⟨c62b0, c62b1⟩ := Ext.eT c62; clear c62; obtain rfl := Option.some.inj H; obtain ⟨Ao63, co63, eo63⟩ := Kd.R_slice HO_4.out; subst eo63
         go_wp2
         go_ret
         exact ⟨by first | rfl | (simp [errW_none, errW_some] <;> rfl) | (simp [*, errW_none, errW_some] <;> rfl), by exact Ext.s2 GE385.out GE404.out HB.out⟩
        ·
         rw [if_neg c62] at H; obtain ⟨c62b0, c62b1⟩ := Ext.eF c62; obtain rfl := Option.some.inj H
         go_wp2
         go_ret
         exact ⟨by first | rfl | (simp [errW_none, errW_some] <;> rfl) | (simp [*, errW_none, errW_some] <;> rfl), by exact Ext.s2 GE385.out GE404.out HB.out⟩

/-- THE ONE PURE STATEMENT of terrierlaw04_PageCodes: yours. -/
def terrierlaw04_PageCodes.Pure : Prop := ∀ (a0_0 : Int) (a0_1 : Int) (a0_2 : Int) (l0_3 : List (S44)) (l0_4 : List (S60)) (l0_5 : List Int) (l0_6 : List Int), (ok28 (⟨a0_0, a0_1, a0_2, l0_3, l0_4, l0_5, l0_6⟩ : S28)) → ∃ k, terrierlaw04_PageCodes.f k a0_0 a0_1 a0_2 l0_3 l0_4 l0_5 l0_6 = some true
theorem terrierlaw04_PageCodes.walk (P : terrierlaw04_PageCodes.Pure) (a0_0 : Int) (a0_1 : Int) (a0_2 : Int) (A0_3 : Option Addr) (c0_3 : Nat) (l0_3 : List (S44)) (A0_4 : Option Addr) (c0_4 : Nat) (l0_4 : List (S60)) (A0_5 : Option Addr) (c0_5 : Nat) (l0_5 : List Int) (A0_6 : Option Addr) (c0_6 : Nat) (l0_6 : List Int) (w : World) (hk0 : ok28 (⟨a0_0, a0_1, a0_2, l0_3, l0_4, l0_5, l0_6⟩ : S28)) (hr0_3 : Kd.C k44 w A0_3 l0_3.length l0_3) (hc0_3 : l0_3.length ≤ c0_3) (hr0_4 : Kd.C k60 w A0_4 l0_4.length l0_4) (hc0_4 : l0_4.length ≤ c0_4) (hr0_5 : Kd.C (Kd.int .u8) w A0_5 l0_5.length l0_5) (hc0_5 : l0_5.length ≤ c0_5) (hr0_6 : Kd.C (Kd.int .i64) w A0_6 l0_6.length l0_6) (hc0_6 : l0_6.length ≤ c0_6) :
  Calls Try.prog 3 #[.agg #[.int .i64 a0_0, .int .u64 a0_1, .int .i64 a0_2, .slice A0_3 l0_3.length c0_3, .slice A0_4 l0_4.length c0_4, .slice A0_5 l0_5.length c0_5, .slice A0_6 l0_6.length c0_6]] w fun e w' => e = .returned (.bool true) ∧ Below w.heap.size w w' := by
 obtain ⟨k, h⟩ := P a0_0 a0_1 a0_2 l0_3 l0_4 l0_5 l0_6 hk0; refine (terrierlaw04_PageCodes.calls k a0_0 a0_1 a0_2 _ _ l0_3 _ _ l0_4 _ _ l0_5 _ _ l0_6 true w hr0_3 hc0_3 hr0_4 hc0_4 hr0_5 hc0_5 hr0_6 hc0_6 h).mono ?_; rintro e w' ⟨rfl, hd⟩
 exact ⟨rfl, hd⟩

end Go.Proofs.Ytandeendeoempaa.PC
