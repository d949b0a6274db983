-- Written by wip/printx.py, a program of this work over the kit's print, for this claim.
import Derived.Test.YtapmgeofbjgalaaPSx0
import Derived.Test.YtapmgeofbjgalaaPSx4
import Derived.Test.YtapmgeofbjgalaaPSx5
import Derived.Test.YtapmgeofbjgalaaPSx6
import Derived.Test.YtapmgeofbjgalaaPSx8
import Derived.Test.YtapmgeofbjgalaaPSx10
import Derived.Test.YtapmgeofbjgalaaPSx11
import Derived.Test.YtapmgeofbjgalaaPSx12
import Derived.Test.YtapmgeofbjgalaaPSx13
import Derived.Test.YtapmgeofbjgalaaPSx14
import Derived.Test.YtapmgeofbjgalaaPSx17
import Derived.Test.YtapmgeofbjgalaaPSx18
import Derived.Test.YtapmgeofbjgalaaPSx19
namespace Go.Proofs.Ytapmgeofbjgalaa.PS
open Go.RowKit Go.Proofs.YtapmgeofbjgalaaW.PrintWords Go.Proofs.YtapmgeofbjgalaaW.PrintLast Go.Proofs.YtapmgeofbjgalaaW.PrintMore
attribute [local go_sem] max2_int min2_int max_two min_two max_three min_three max_four min_four   -- for this text's walks alone
attribute [local go_sem] Ext.pick_u8 Ext.pick_u32 Ext.pick_u64
set_option linter.unusedVariables false
set_option linter.unusedSimpArgs false

/-! ### terrierlaw13_RecordCodes: function 3 -/
mutual
def terrierlaw13_RecordCodes.j0 : Nat → Bool → List Int → List Int → Int → Int → Int → Int → Option (Bool)
  | 0, _, _, _, _, _, _, _ => none
  | k + 1, x16, x244000, x244001, x244002, x244003, x244004, x244005 => if x16 = true then ((terrierlaw13_lives.f k).bind fun t246 => (some t246)) else ((terrierref13_Twin.f x244000 x244001 x244002 x244003 x244004 x244005).bind fun bt247 => ((record_Encode.f k bt247.1 bt247.2.1 bt247.2.2.1 bt247.2.2.2.1 bt247.2.2.2.2.1 bt247.2.2.2.2.2).bind fun bt258 => ((record_Tomb.f k bt247.1).bind fun bt262 => ((terrierref13_Right.f x244000 x244001 x244002 x244003 x244004 x244005).bind fun t266 => (if (x244000.length : Int) ≥ 1 then (terrierlaw13_RecordCodes.j1 k bt258.1 bt258.2 bt262.1 bt262.2 t266 (decide ((x244000.length : Int) ≤ 64)) x244000 x244001 x244002 x244003 x244004 x244005 bt247.1 bt247.2.1 bt247.2.2.1 bt247.2.2.2.1 bt247.2.2.2.2.1 bt247.2.2.2.2.2) else (terrierlaw13_RecordCodes.j1 k bt258.1 bt258.2 bt262.1 bt262.2 t266 false x244000 x244001 x244002 x244003 x244004 x244005 bt247.1 bt247.2.1 bt247.2.2.1 bt247.2.2.2.1 bt247.2.2.2.2.1 bt247.2.2.2.2.2))))))
def terrierlaw13_RecordCodes.j1 : Nat → List Int → Int → List Int → Int → Bool → Bool → List Int → List Int → Int → Int → Int → Int → List Int → List Int → Int → Int → Int → Int → Option (Bool)
  | 0, _, _, _, _, _, _, _, _, _, _, _, _, _, _, _, _, _, _ => none
  | k + 1, x4, x5, x6, x7, x8, x9, x244000, x244001, x244002, x244003, x244004, x244005, x258000, x258001, x258002, x258003, x258004, x258005 => (record_Right.f x258000 x258001 x258002 x258003 x258004 x258005).bind fun t267 => (if (t267 != x8) = true then (terrierlaw13_RecordCodes.j2 k x4 x5 x6 x7 x8 x9 true x244000 x244001 x244002 x244003 x244004 x244005) else ((terrierref13_Same.f x258000 x258001 x258002 x258003 x258004 x258005 x244000 x244001 x244002 x244003 x244004 x244005).bind fun t268 => (terrierlaw13_RecordCodes.j2 k x4 x5 x6 x7 x8 x9 (!t268) x244000 x244001 x244002 x244003 x244004 x244005)))
def terrierlaw13_RecordCodes.j2 : Nat → List Int → Int → List Int → Int → Bool → Bool → Bool → List Int → List Int → Int → Int → Int → Int → Option (Bool)
  | 0, _, _, _, _, _, _, _, _, _, _, _, _, _ => none
  | k + 1, x4, x5, x6, x7, x8, x9, x52, x244000, x244001, x244002, x244003, x244004, x244005 => if x52 = true then (some false) else (if x8 = true then (if x5 = 0 then ((terrierref13_Encode.f k x244000 x244001 x244002 x244003 x244004 x244005).bind fun t269 => ((terrierref01_Same.f x4 t269).bind fun t272 => (if t272 = true then (if x9 = true then (if x7 = 0 then ((terrierref13_Tomb.f k x244000).bind fun t273 => ((terrierref01_Same.f x6 t273).bind fun t276 => (if t276 = true then (some true) else (some false)))) else (some false)) else (if x7 = 4 then (some ((x6.length : Int) == 0)) else (some false))) else (some false)))) else (some false)) else (if x5 = 4 then (if (x4.length : Int) = 0 then (if x9 = true then (if x7 = 0 then ((terrierref13_Tomb.f k x244000).bind fun t277 => ((terrierref01_Same.f x6 t277).bind fun t280 => (if t280 = true then (some true) else (some false)))) else (some false)) else (if x7 = 4 then (some ((x6.length : Int) == 0)) else (some false))) else (some false)) else (some false)))
end
def terrierlaw13_RecordCodes.f (k : Nat) (l0_0 : List Int) (l0_1 : List Int) (a0_2 : Int) (a0_3 : Int) (a0_4 : Int) (a0_5 : Int) : Option (Bool) := (terrierlaw13_lives.f k).bind fun t244 => (if t244 = true then ((terrierlaw13_few.f l0_0 l0_1 a0_2 a0_3 a0_4 a0_5).bind fun t245 => (terrierlaw13_RecordCodes.j0 k (!t245) l0_0 l0_1 a0_2 a0_3 a0_4 a0_5)) else (terrierlaw13_RecordCodes.j0 k true l0_0 l0_1 a0_2 a0_3 a0_4 a0_5))
theorem terrierlaw13_RecordCodes.mono_l : ∀ k, (∀ y0 y1 y2 y3 y4 y5 y6, LeO (terrierlaw13_RecordCodes.j0 k y0 y1 y2 y3 y4 y5 y6) (terrierlaw13_RecordCodes.j0 (k + 1) y0 y1 y2 y3 y4 y5 y6)) ∧ (∀ y0 y1 y2 y3 y4 y5 y6 y7 y8 y9 y10 y11 y12 y13 y14 y15 y16 y17, LeO (terrierlaw13_RecordCodes.j1 k y0 y1 y2 y3 y4 y5 y6 y7 y8 y9 y10 y11 y12 y13 y14 y15 y16 y17) (terrierlaw13_RecordCodes.j1 (k + 1) y0 y1 y2 y3 y4 y5 y6 y7 y8 y9 y10 y11 y12 y13 y14 y15 y16 y17)) ∧ (∀ y0 y1 y2 y3 y4 y5 y6 y7 y8 y9 y10 y11 y12, LeO (terrierlaw13_RecordCodes.j2 k y0 y1 y2 y3 y4 y5 y6 y7 y8 y9 y10 y11 y12) (terrierlaw13_RecordCodes.j2 (k + 1) y0 y1 y2 y3 y4 y5 y6 y7 y8 y9 y10 y11 y12))
  | 0 => ⟨fun _ _ _ _ _ _ _ r h => by simp [terrierlaw13_RecordCodes.j0] at h, fun _ _ _ _ _ _ _ _ _ _ _ _ _ _ _ _ _ _ r h => by simp [terrierlaw13_RecordCodes.j1] at h, fun _ _ _ _ _ _ _ _ _ _ _ _ _ r h => by simp [terrierlaw13_RecordCodes.j2] at h⟩
  | k + 1 => by
    obtain ⟨ih0, ih1, ih2⟩ := terrierlaw13_RecordCodes.mono_l k
    refine ⟨?_, ?_, ?_⟩
    · intro y0 y1 y2 y3 y4 y5 y6
      unfold terrierlaw13_RecordCodes.j0
      repeat' first
      | (with_reducible exact ih0 _ _ _ _ _ _ _)
      | (with_reducible exact ih1 _ _ _ _ _ _ _ _ _ _ _ _ _ _ _ _ _ _)
      | (with_reducible exact ih2 _ _ _ _ _ _ _ _ _ _ _ _ _)
      | (with_reducible exact record_Encode.mono _ _ _ _ _ _ _)
      | (with_reducible exact record_Tomb.mono _ _)
      | (with_reducible exact terrierlaw13_lives.mono _)
      | (with_reducible exact terrierref13_Encode.mono _ _ _ _ _ _ _)
      | (with_reducible exact terrierref13_Tomb.mono _ _)
      | (with_reducible exact LeO.refl _)
      | (with_reducible exact LeO.none _)
      | (with_reducible refine LeO.ite ?_ ?_)
      | (with_reducible refine LeO.bind ?_ (fun _ => ?_))
      | exact ih0 _ _ _ _ _ _ _
      | exact ih1 _ _ _ _ _ _ _ _ _ _ _ _ _ _ _ _ _ _
      | exact ih2 _ _ _ _ _ _ _ _ _ _ _ _ _
      | exact record_Encode.mono _ _ _ _ _ _ _
      | exact record_Tomb.mono _ _
      | exact terrierlaw13_lives.mono _
      | exact terrierref13_Encode.mono _ _ _ _ _ _ _
      | exact terrierref13_Tomb.mono _ _
      | exact LeO.none _
      | refine LeO.ite ?_ ?_
      | refine LeO.bind ?_ (fun _ => ?_)
    · intro y0 y1 y2 y3 y4 y5 y6 y7 y8 y9 y10 y11 y12 y13 y14 y15 y16 y17
      unfold terrierlaw13_RecordCodes.j1
      repeat' first
      | (with_reducible exact ih0 _ _ _ _ _ _ _)
      | (with_reducible exact ih1 _ _ _ _ _ _ _ _ _ _ _ _ _ _ _ _ _ _)
      | (with_reducible exact ih2 _ _ _ _ _ _ _ _ _ _ _ _ _)
      | (with_reducible exact record_Encode.mono _ _ _ _ _ _ _)
      | (with_reducible exact record_Tomb.mono _ _)
      | (with_reducible exact terrierlaw13_lives.mono _)
      | (with_reducible exact terrierref13_Encode.mono _ _ _ _ _ _ _)
      | (with_reducible exact terrierref13_Tomb.mono _ _)
      | (with_reducible exact LeO.refl _)
      | (with_reducible exact LeO.none _)
      | (with_reducible refine LeO.ite ?_ ?_)
      | (with_reducible refine LeO.bind ?_ (fun _ => ?_))
      | exact ih0 _ _ _ _ _ _ _
      | exact ih1 _ _ _ _ _ _ _ _ _ _ _ _ _ _ _ _ _ _
      | exact ih2 _ _ _ _ _ _ _ _ _ _ _ _ _
      | exact record_Encode.mono _ _ _ _ _ _ _
      | exact record_Tomb.mono _ _
      | exact terrierlaw13_lives.mono _
      | exact terrierref13_Encode.mono _ _ _ _ _ _ _
      | exact terrierref13_Tomb.mono _ _
      | exact LeO.none _
      | refine LeO.ite ?_ ?_
      | refine LeO.bind ?_ (fun _ => ?_)
    · intro y0 y1 y2 y3 y4 y5 y6 y7 y8 y9 y10 y11 y12
      unfold terrierlaw13_RecordCodes.j2
      repeat' first
      | (with_reducible exact ih0 _ _ _ _ _ _ _)
      | (with_reducible exact ih1 _ _ _ _ _ _ _ _ _ _ _ _ _ _ _ _ _ _)
      | (with_reducible exact ih2 _ _ _ _ _ _ _ _ _ _ _ _ _)
      | (with_reducible exact record_Encode.mono _ _ _ _ _ _ _)
      | (with_reducible exact record_Tomb.mono _ _)
      | (with_reducible exact terrierlaw13_lives.mono _)
      | (with_reducible exact terrierref13_Encode.mono _ _ _ _ _ _ _)
      | (with_reducible exact terrierref13_Tomb.mono _ _)
      | (with_reducible exact LeO.refl _)
      | (with_reducible exact LeO.none _)
      | (with_reducible refine LeO.ite ?_ ?_)
      | (with_reducible refine LeO.bind ?_ (fun _ => ?_))
      | exact ih0 _ _ _ _ _ _ _
      | exact ih1 _ _ _ _ _ _ _ _ _ _ _ _ _ _ _ _ _ _
      | exact ih2 _ _ _ _ _ _ _ _ _ _ _ _ _
      | exact record_Encode.mono _ _ _ _ _ _ _
      | exact record_Tomb.mono _ _
      | exact terrierlaw13_lives.mono _
      | exact terrierref13_Encode.mono _ _ _ _ _ _ _
      | exact terrierref13_Tomb.mono _ _
      | exact LeO.none _
      | refine LeO.ite ?_ ?_
      | refine LeO.bind ?_ (fun _ => ?_)
theorem terrierlaw13_RecordCodes.mono : ∀ a0 a1 a2 a3 a4 a5 k, LeO (terrierlaw13_RecordCodes.f k a0 a1 a2 a3 a4 a5) (terrierlaw13_RecordCodes.f (k + 1) a0 a1 a2 a3 a4 a5) := by
  intro a0 a1 a2 a3 a4 a5 k
  obtain ⟨ih0, ih1, ih2⟩ := terrierlaw13_RecordCodes.mono_l k
  unfold terrierlaw13_RecordCodes.f
  repeat' first
      | (with_reducible exact ih0 _ _ _ _ _ _ _)
      | (with_reducible exact ih1 _ _ _ _ _ _ _ _ _ _ _ _ _ _ _ _ _ _)
      | (with_reducible exact ih2 _ _ _ _ _ _ _ _ _ _ _ _ _)
      | (with_reducible exact record_Encode.mono _ _ _ _ _ _ _)
      | (with_reducible exact record_Tomb.mono _ _)
      | (with_reducible exact terrierlaw13_lives.mono _)
      | (with_reducible exact terrierref13_Encode.mono _ _ _ _ _ _ _)
      | (with_reducible exact terrierref13_Tomb.mono _ _)
      | (with_reducible exact LeO.refl _)
      | (with_reducible exact LeO.none _)
      | (with_reducible refine LeO.ite ?_ ?_)
      | (with_reducible refine LeO.bind ?_ (fun _ => ?_))
      | exact ih0 _ _ _ _ _ _ _
      | exact ih1 _ _ _ _ _ _ _ _ _ _ _ _ _ _ _ _ _ _
      | exact ih2 _ _ _ _ _ _ _ _ _ _ _ _ _
      | exact record_Encode.mono _ _ _ _ _ _ _
      | exact record_Tomb.mono _ _
      | exact terrierlaw13_lives.mono _
      | exact terrierref13_Encode.mono _ _ _ _ _ _ _
      | exact terrierref13_Tomb.mono _ _
      | exact LeO.none _
      | refine LeO.ite ?_ ?_
      | refine LeO.bind ?_ (fun _ => ?_)
set_option maxHeartbeats 8000000 in
set_option maxRecDepth 100000 in
theorem terrierlaw13_RecordCodes.calls (k : Nat) (A0_0 : Option Addr) (c0_0 : Nat) (l0_0 : List Int) (A0_1 : Option Addr) (c0_1 : Nat) (l0_1 : List Int) (a0_2 : Int) (a0_3 : Int) (a0_4 : Int) (a0_5 : Int) (r : Bool) (w : World) (hr0_0 : Kd.C (Kd.int .u8) w A0_0 l0_0.length l0_0) (hc0_0 : l0_0.length ≤ c0_0) (hr0_1 : Kd.C (Kd.int .u8) w A0_1 l0_1.length l0_1) (hc0_1 : l0_1.length ≤ c0_1) (h : terrierlaw13_RecordCodes.f k l0_0 l0_1 a0_2 a0_3 a0_4 a0_5 = some r) :
    Calls Try.prog 3 #[.agg #[.slice A0_0 l0_0.length c0_0, .slice A0_1 l0_1.length c0_1, .int .i64 a0_2, .int .i64 a0_3, .int .i64 a0_4, .int .i64 a0_5]] w fun e w' => e = .returned (.bool r) ∧ Below w.heap.size w w' := by
  have hu24 := Try.underlying24
  have HR0_0 := Aside0.mk hr0_0
  have HC0_0 := Aside0.mk hc0_0
  clear hr0_0 hc0_0
  have HR0_1 := Aside0.mk hr0_1
  have HC0_1 := Aside0.mk hc0_1
  clear hr0_1 hc0_1
  have HB := Aside0.mk (Below.refl w.heap.size w)
  have H : ((terrierlaw13_lives.f k).bind fun t244 => (if t244 = true then ((terrierlaw13_few.f l0_0 l0_1 a0_2 a0_3 a0_4 a0_5).bind fun t245 => (terrierlaw13_RecordCodes.j0 k (!t245) l0_0 l0_1 a0_2 a0_3 a0_4 a0_5)) else (terrierlaw13_RecordCodes.j0 k true l0_0 l0_1 a0_2 a0_3 a0_4 a0_5))) = some r := h
  clear h
  have HC2 := Aside0.mk H
  clear H
  go_enter Try.func3, Try.ntmps3
  go_upto_region 1 with (first | ((with_reducible refine gate_dst (N := 1) rfl ?_); (try (refine gate_guard (by rfl) ?_; dsimp only)); refine box_event ?hg (N := 1) ?hd (cs := #[.slice A0_0 l0_0.length c0_0, .slice A0_1 l0_1.length c0_1, .int .i64 a0_2, .int .i64 a0_3, .int .i64 a0_4, .int .i64 a0_5]) (t := 24) ?hr ?_; (case hd => rfl); (case hg => rfl); (case hr => first | (go_simp; done) | (go_simp; rfl)); intro gb243 hg w3 hbox hb; have n0_ := Aside0.mk (below_step (by repeat (first | (with_reducible first | exact HB.out | apply below_alloc | apply pw_below_drewN | apply below_drew1) | exact HB.out | exact Below.refl _ _)) hb); have n1_ := Aside0.mk (hbox); have n2_ := Aside0.mk ((by rw [hg]; exact (below_size (by repeat (first | (with_reducible first | exact HB.out | apply below_alloc | apply pw_below_drewN | apply below_drew1) | exact HB.out | exact Below.refl _ _))) : w.heap.size ≤ gb243)); have n3_ := Aside0.mk ((by rw [hg]; exact (below_size (by repeat (first | (with_reducible first | exact HB.out | apply below_alloc | apply pw_below_drewN | apply below_drew1) | exact HB.out | exact Below.refl _ _))) : w.heap.size ≤ gb243)); clear HB; have HB := n0_; have BK243 := n1_; have GW243 := n2_; have GE243 := n3_; clear n0_ n1_ n2_ n3_; clear hb hbox hg))
  (try simp only [Act.put, List.setIfInBounds_toArray, List.set_cons_zero, List.set_cons_succ])
  go_cut [16] (fun v16 wc => ∃ (kq : Nat) (x16_1 : Bool), v16 = .bool x16_1 ∧ Aside0 (terrierlaw13_RecordCodes.j0 kq x16_1 l0_0 l0_1 a0_2 a0_3 a0_4 a0_5 = some r) ∧ Aside0 (kq ≤ k) ∧ Aside0 (wc.heap[gb243]? = some (.cells #[(.slice A0_0 l0_0.length c0_0), (.slice A0_1 l0_1.length c0_1), .int .i64 a0_2, .int .i64 a0_3, .int .i64 a0_4, .int .i64 a0_5] 24 (0, 0))) ∧ Aside0 (Below w.heap.size w wc))
  case first =>
    have H := HC2.out
    clear HC2
    replace H := Option.bind_eq_some_iff.mp H
    obtain ⟨t244, A40, H⟩ := H
    replace H : (if t244 = true then ((terrierlaw13_few.f l0_0 l0_1 a0_2 a0_3 a0_4 a0_5).bind fun t245 => (terrierlaw13_RecordCodes.j0 k (!t245) l0_0 l0_1 a0_2 a0_3 a0_4 a0_5)) else (terrierlaw13_RecordCodes.j0 k true l0_0 l0_1 a0_2 a0_3 a0_4 a0_5)) = some r := H
    have A4 := Aside0.mk A40
    clear A40
    by_cases c5 : t244 = true
    · subst c5
      have H1 : ((terrierlaw13_few.f l0_0 l0_1 a0_2 a0_3 a0_4 a0_5).bind fun t245 => (terrierlaw13_RecordCodes.j0 k (!t245) l0_0 l0_1 a0_2 a0_3 a0_4 a0_5)) = some r := by rw [if_pos rfl] at H; exact H
      clear H
      have H := H1
      clear H1
      replace H := Option.bind_eq_some_iff.mp H
      obtain ⟨t245, A60, H⟩ := H
      replace H : (terrierlaw13_RecordCodes.j0 k (!t245) l0_0 l0_1 a0_2 a0_3 a0_4 a0_5) = some r := H
      have A6 := Aside0.mk A60
      clear A60
      have H' := Aside0.mk H
      clear H
      go_wp2_with (first | ((with_reducible refine gate_callee (f := 7) rfl ?_); refine goesL_ (some 10) rfl rfl Try.func7 (by kernel_rfl) rfl #[] rfl (by (try simp only [List.map_toArray, List.map_cons, List.map_nil]); first | done | rfl | (simp only [List.length_drop, List.length_take]; rfl)) ?_; (with_reducible refine (terrierlaw13_lives.calls k  true _ A4.out).mono ?_); rintro e w7 ⟨rfl, hb⟩; refine ⟨_, rfl, ?_⟩; have n0_ := Aside0.mk (blk_below (g := gb243) (o := .cells #[.slice A0_0 l0_0.length c0_0, .slice A0_1 l0_1.length c0_1, .int .i64 a0_2, .int .i64 a0_3, .int .i64 a0_4, .int .i64 a0_5] 24 (0, 0)) (by (with_reducible repeat (first | refine blk_drewN ?_ _ | refine blk_drew ?_ | refine blk_alloc ?_ _)); exact BK243.out) hb); have n1_ := Aside0.mk (below_step (by repeat (first | (with_reducible first | exact HB.out | apply below_alloc | apply pw_below_drewN | apply below_drew1 | refine below_set ?_ GE243.out) | exact HB.out | exact Below.refl _ _)) hb); clear BK243; clear HB; have BK243 := n0_; have HB := n1_; clear n0_ n1_; (try clear hb); (try clear hb2); (try clear hk); (try clear hi); have hcz8_0 : w7.cell? ⟨gb243, 0, none⟩ = some (.slice A0_0 l0_0.length c0_0) := (blk_cell BK243.out 0).trans rfl; have hcz8_1 : w7.cell? ⟨gb243, 1, none⟩ = some (.slice A0_1 l0_1.length c0_1) := (blk_cell BK243.out 1).trans rfl; have hcz8_2 : w7.cell? ⟨gb243, 2, none⟩ = some (.int .i64 a0_2) := (blk_cell BK243.out 2).trans rfl; have hcz8_3 : w7.cell? ⟨gb243, 3, none⟩ = some (.int .i64 a0_3) := (blk_cell BK243.out 3).trans rfl; have hcz8_4 : w7.cell? ⟨gb243, 4, none⟩ = some (.int .i64 a0_4) := (blk_cell BK243.out 4).trans rfl; have hcz8_5 : w7.cell? ⟨gb243, 5, none⟩ = some (.int .i64 a0_5) := (blk_cell BK243.out 5).trans rfl; have hfz8_0 := blk_frozen BK243.out 0; have hfz8_1 := blk_frozen BK243.out 1; have hfz8_2 := blk_frozen BK243.out 2; have hfz8_3 := blk_frozen BK243.out 3; have hfz8_4 := blk_frozen BK243.out 4; have hfz8_5 := blk_frozen BK243.out 5) | (go_at_call 8; (with_reducible refine (terrierlaw13_few.calls _ _ l0_0 _ _ l0_1 a0_2 a0_3 a0_4 a0_5 t245 _ ?side1 ?side2 ?side3 ?side4 A6.out).mono ?_); (case side1 => repeat (first | exact (Kd.C_below HR0_0.out HB.out) | exact HR0_0.out | (with_reducible refine Kd.C_alloc ?_ _) | (with_reducible refine Kd.C_drewN ?_ _) | (with_reducible refine Kd.C_drew ?_))); (case side2 => exact HC0_0.out); (case side3 => repeat (first | exact (Kd.C_below HR0_1.out HB.out) | exact HR0_1.out | (with_reducible refine Kd.C_alloc ?_ _) | (with_reducible refine Kd.C_drewN ?_ _) | (with_reducible refine Kd.C_drew ?_))); (case side4 => exact HC0_1.out); rintro e w9 ⟨rfl, hb⟩; have n0_ := Aside0.mk (blk_below (g := gb243) (o := .cells #[.slice A0_0 l0_0.length c0_0, .slice A0_1 l0_1.length c0_1, .int .i64 a0_2, .int .i64 a0_3, .int .i64 a0_4, .int .i64 a0_5] 24 (0, 0)) (by (with_reducible repeat (first | refine blk_drewN ?_ _ | refine blk_drew ?_ | refine blk_alloc ?_ _)); exact BK243.out) hb); have n1_ := Aside0.mk (below_step (by repeat (first | (with_reducible first | exact HB.out | apply below_alloc | apply pw_below_drewN | apply below_drew1 | refine below_set ?_ GE243.out) | exact HB.out | exact Below.refl _ _)) hb); clear BK243; clear HB; have BK243 := n0_; have HB := n1_; clear n0_ n1_; (try clear hb); (try clear hb2); (try clear hk); (try clear hi)))
      go_meet
      case rel => exact ⟨_, (!t245), (by first | rfl | (simp; done) | (simp [*]; done)), H', ⟨by first | omega | exact Nat.le_refl _⟩, ⟨by (with_reducible repeat (first | refine blk_drewN ?_ _ | refine blk_drew ?_ | refine blk_alloc ?_ _)); exact BK243.out⟩, ⟨by repeat (first | (with_reducible first | exact HB.out | apply below_alloc | apply pw_below_drewN | apply below_drew1 | refine below_set ?_ GE243.out) | exact HB.out | exact Below.refl _ _)⟩⟩
    · replace c5 := Bool.eq_false_iff.mpr c5
      subst c5
      have H1 : (terrierlaw13_RecordCodes.j0 k true l0_0 l0_1 a0_2 a0_3 a0_4 a0_5) = some r := by rw [if_neg (show ¬ (false = true) by decide)] at H; exact H
      clear H
      have H := H1
      clear H1
      have H' := Aside0.mk H
      clear H
      go_wp2_with (first | ((with_reducible refine gate_callee (f := 7) rfl ?_); refine goesL_ (some 10) rfl rfl Try.func7 (by kernel_rfl) rfl #[] rfl (by (try simp only [List.map_toArray, List.map_cons, List.map_nil]); first | done | rfl | (simp only [List.length_drop, List.length_take]; rfl)) ?_; (with_reducible refine (terrierlaw13_lives.calls k  false _ A4.out).mono ?_); rintro e w10 ⟨rfl, hb⟩; refine ⟨_, rfl, ?_⟩; have n0_ := Aside0.mk (blk_below (g := gb243) (o := .cells #[.slice A0_0 l0_0.length c0_0, .slice A0_1 l0_1.length c0_1, .int .i64 a0_2, .int .i64 a0_3, .int .i64 a0_4, .int .i64 a0_5] 24 (0, 0)) (by (with_reducible repeat (first | refine blk_drewN ?_ _ | refine blk_drew ?_ | refine blk_alloc ?_ _)); exact BK243.out) hb); have n1_ := Aside0.mk (below_step (by repeat (first | (with_reducible first | exact HB.out | apply below_alloc | apply pw_below_drewN | apply below_drew1 | refine below_set ?_ GE243.out) | exact HB.out | exact Below.refl _ _)) hb); clear BK243; clear HB; have BK243 := n0_; have HB := n1_; clear n0_ n1_; (try clear hb); (try clear hb2); (try clear hk); (try clear hi)))
      go_meet
      case rel => exact ⟨_, (true), (by first | rfl | (simp; done) | (simp [*]; done)), H', ⟨by first | omega | exact Nat.le_refl _⟩, ⟨by (with_reducible repeat (first | refine blk_drewN ?_ _ | refine blk_drew ?_ | refine blk_alloc ?_ _)); exact BK243.out⟩, ⟨by repeat (first | (with_reducible first | exact HB.out | apply below_alloc | apply pw_below_drewN | apply below_drew1 | refine below_set ?_ GE243.out) | exact HB.out | exact Below.refl _ _)⟩⟩
  case rest =>
    clear HC2
    try clear p2
    try clear c3
    try clear c5
    try clear c7
    try clear hcz8_0
    try clear hcz8_1
    try clear hcz8_2
    try clear hcz8_3
    try clear hcz8_4
    try clear hcz8_5
    try clear hfz8_0
    try clear hfz8_1
    try clear hfz8_2
    try clear hfz8_3
    try clear hfz8_4
    try clear hfz8_5
    obtain ⟨kq, x16_1, rfl, HA, HJ1, BK243, HB⟩ := hcut
    cases kq with
    | zero => exact absurd HA.out (by simp [terrierlaw13_RecordCodes.j0])
    | succ kj1 =>
      have H := HA.out
      clear HA
      simp only [terrierlaw13_RecordCodes.j0] at H
      by_cases c11 : x16_1 = true
      · subst c11
        have H1 : ((terrierlaw13_lives.f kj1).bind fun t246 => (some t246)) = some r := by rw [if_pos rfl] at H; exact H
        clear H
        have H := H1
        clear H1
        replace H := Option.bind_eq_some_iff.mp H
        obtain ⟨t246, A120, H⟩ := H
        replace H : (some t246) = some r := H
        have A12 := Aside0.mk A120
        clear A120
        obtain rfl := Option.some.inj H
        go_wp2_with (first | ((with_reducible refine gate_callee (f := 7) rfl ?_); refine goesL_ (some 17) rfl rfl Try.func7 (by kernel_rfl) rfl #[] rfl (by (try simp only [List.map_toArray, List.map_cons, List.map_nil]); first | done | rfl | (simp only [List.length_drop, List.length_take]; rfl)) ?_; (with_reducible refine (terrierlaw13_lives.calls kj1  t246 _ A12.out).mono ?_); rintro e w13 ⟨rfl, hb⟩; refine ⟨_, rfl, ?_⟩; have n0_ := Aside0.mk (blk_below (g := gb243) (o := .cells #[.slice A0_0 l0_0.length c0_0, .slice A0_1 l0_1.length c0_1, .int .i64 a0_2, .int .i64 a0_3, .int .i64 a0_4, .int .i64 a0_5] 24 (0, 0)) (by (with_reducible repeat (first | refine blk_drewN ?_ _ | refine blk_drew ?_ | refine blk_alloc ?_ _)); exact BK243.out) hb); have n1_ := Aside0.mk (below_step (by repeat (first | (with_reducible first | exact HB.out | apply below_alloc | apply pw_below_drewN | apply below_drew1 | refine below_set ?_ GE243.out) | exact HB.out | exact Below.refl _ _)) hb); clear BK243; clear HB; have BK243 := n0_; have HB := n1_; clear n0_ n1_; (try clear hb); (try clear hb2); (try clear hk); (try clear hi)))
        go_ret
        exact ⟨by first | rfl | (simp [errW_none, errW_some] <;> rfl) | (simp [*, errW_none, errW_some] <;> rfl), by repeat (first | (with_reducible first | exact HB.out | apply below_alloc | apply pw_below_drewN | apply below_drew1 | refine below_set ?_ GE243.out) | exact HB.out | exact Below.refl _ _)⟩
      · replace c11 := Bool.eq_false_iff.mpr c11
        subst c11
        have H1 : ((terrierref13_Twin.f l0_0 l0_1 a0_2 a0_3 a0_4 a0_5).bind fun bt247 => ((record_Encode.f kj1 bt247.1 bt247.2.1 bt247.2.2.1 bt247.2.2.2.1 bt247.2.2.2.2.1 bt247.2.2.2.2.2).bind fun bt258 => ((record_Tomb.f kj1 bt247.1).bind fun bt262 => ((terrierref13_Right.f l0_0 l0_1 a0_2 a0_3 a0_4 a0_5).bind fun t266 => (if (l0_0.length : Int) ≥ 1 then (terrierlaw13_RecordCodes.j1 kj1 bt258.1 bt258.2 bt262.1 bt262.2 t266 (decide ((l0_0.length : Int) ≤ 64)) l0_0 l0_1 a0_2 a0_3 a0_4 a0_5 bt247.1 bt247.2.1 bt247.2.2.1 bt247.2.2.2.1 bt247.2.2.2.2.1 bt247.2.2.2.2.2) else (terrierlaw13_RecordCodes.j1 kj1 bt258.1 bt258.2 bt262.1 bt262.2 t266 false l0_0 l0_1 a0_2 a0_3 a0_4 a0_5 bt247.1 bt247.2.1 bt247.2.2.1 bt247.2.2.2.1 bt247.2.2.2.2.1 bt247.2.2.2.2.2)))))) = some r := by rw [if_neg (show ¬ (false = true) by decide)] at H; exact H
        clear H
        have H := H1
        clear H1
        replace H := Option.bind_eq_some_iff.mp H
        obtain ⟨⟨t247, t250, t253, t254, t255, t256⟩, A140, H⟩ := H
        replace H : ((record_Encode.f kj1 t247 t250 t253 t254 t255 t256).bind fun bt258 => ((record_Tomb.f kj1 t247).bind fun bt262 => ((terrierref13_Right.f l0_0 l0_1 a0_2 a0_3 a0_4 a0_5).bind fun t266 => (if (l0_0.length : Int) ≥ 1 then (terrierlaw13_RecordCodes.j1 kj1 bt258.1 bt258.2 bt262.1 bt262.2 t266 (decide ((l0_0.length : Int) ≤ 64)) l0_0 l0_1 a0_2 a0_3 a0_4 a0_5 t247 t250 t253 t254 t255 t256) else (terrierlaw13_RecordCodes.j1 kj1 bt258.1 bt258.2 bt262.1 bt262.2 t266 false l0_0 l0_1 a0_2 a0_3 a0_4 a0_5 t247 t250 t253 t254 t255 t256))))) = some r := H
        have A14 := Aside0.mk A140
        clear A140
        replace H := Option.bind_eq_some_iff.mp H
        obtain ⟨⟨t258, t261⟩, A150, H⟩ := H
        replace H : ((record_Tomb.f kj1 t247).bind fun bt262 => ((terrierref13_Right.f l0_0 l0_1 a0_2 a0_3 a0_4 a0_5).bind fun t266 => (if (l0_0.length : Int) ≥ 1 then (terrierlaw13_RecordCodes.j1 kj1 t258 t261 bt262.1 bt262.2 t266 (decide ((l0_0.length : Int) ≤ 64)) l0_0 l0_1 a0_2 a0_3 a0_4 a0_5 t247 t250 t253 t254 t255 t256) else (terrierlaw13_RecordCodes.j1 kj1 t258 t261 bt262.1 bt262.2 t266 false l0_0 l0_1 a0_2 a0_3 a0_4 a0_5 t247 t250 t253 t254 t255 t256)))) = some r := H
        have A15 := Aside0.mk A150
        clear A150
        replace H := Option.bind_eq_some_iff.mp H
        obtain ⟨⟨t262, t263⟩, A160, H⟩ := H
        replace H : ((terrierref13_Right.f l0_0 l0_1 a0_2 a0_3 a0_4 a0_5).bind fun t266 => (if (l0_0.length : Int) ≥ 1 then (terrierlaw13_RecordCodes.j1 kj1 t258 t261 t262 t263 t266 (decide ((l0_0.length : Int) ≤ 64)) l0_0 l0_1 a0_2 a0_3 a0_4 a0_5 t247 t250 t253 t254 t255 t256) else (terrierlaw13_RecordCodes.j1 kj1 t258 t261 t262 t263 t266 false l0_0 l0_1 a0_2 a0_3 a0_4 a0_5 t247 t250 t253 t254 t255 t256))) = some r := H
        have A16 := Aside0.mk A160
        clear A160
        replace H := Option.bind_eq_some_iff.mp H
        obtain ⟨t266, A170, H⟩ := H
        replace H : (if (l0_0.length : Int) ≥ 1 then (terrierlaw13_RecordCodes.j1 kj1 t258 t261 t262 t263 t266 (decide ((l0_0.length : Int) ≤ 64)) l0_0 l0_1 a0_2 a0_3 a0_4 a0_5 t247 t250 t253 t254 t255 t256) else (terrierlaw13_RecordCodes.j1 kj1 t258 t261 t262 t263 t266 false l0_0 l0_1 a0_2 a0_3 a0_4 a0_5 t247 t250 t253 t254 t255 t256)) = some r := H
        have A17 := Aside0.mk A170
        clear A170
        have HC18 := Aside0.mk H
        clear H
        have hcz19_0 : wc.cell? ⟨gb243, 0, none⟩ = some (.slice A0_0 l0_0.length c0_0) := (blk_cell BK243.out 0).trans rfl
        have hcz19_1 : wc.cell? ⟨gb243, 1, none⟩ = some (.slice A0_1 l0_1.length c0_1) := (blk_cell BK243.out 1).trans rfl
        have hcz19_2 : wc.cell? ⟨gb243, 2, none⟩ = some (.int .i64 a0_2) := (blk_cell BK243.out 2).trans rfl
        have hcz19_3 : wc.cell? ⟨gb243, 3, none⟩ = some (.int .i64 a0_3) := (blk_cell BK243.out 3).trans rfl
        have hcz19_4 : wc.cell? ⟨gb243, 4, none⟩ = some (.int .i64 a0_4) := (blk_cell BK243.out 4).trans rfl
        have hcz19_5 : wc.cell? ⟨gb243, 5, none⟩ = some (.int .i64 a0_5) := (blk_cell BK243.out 5).trans rfl
        have hfz19_0 := blk_frozen BK243.out 0
        have hfz19_1 := blk_frozen BK243.out 1
        have hfz19_2 := blk_frozen BK243.out 2
        have hfz19_3 := blk_frozen BK243.out 3
        have hfz19_4 := blk_frozen BK243.out 4
        have hfz19_5 := blk_frozen BK243.out 5
        go_upto_region 7 with (first | ((with_reducible refine gate_callee (f := 9) rfl ?_); refine goesL_ (some 19) rfl rfl Try.func9 (by kernel_rfl) rfl #[.agg #[.slice A0_0 l0_0.length c0_0, .slice A0_1 l0_1.length c0_1, .int .i64 a0_2, .int .i64 a0_3, .int .i64 a0_4, .int .i64 a0_5]] rfl (by (try simp only [List.map_toArray, List.map_cons, List.map_nil]); first | done | rfl | (simp only [List.length_drop, List.length_take]; rfl)) ?_; (with_reducible refine (terrierref13_Twin.calls _ _ l0_0 _ _ l0_1 a0_2 a0_3 a0_4 a0_5 t247 t250 t253 t254 t255 t256 _ ?side1 ?side2 ?side3 ?side4 A14.out).mono ?_); (case side1 => repeat (first | exact (Kd.C_below HR0_0.out HB.out) | exact HR0_0.out | (with_reducible refine Kd.C_alloc ?_ _) | (with_reducible refine Kd.C_drewN ?_ _) | (with_reducible refine Kd.C_drew ?_))); (case side2 => exact HC0_0.out); (case side3 => repeat (first | exact (Kd.C_below HR0_1.out HB.out) | exact HR0_1.out | (with_reducible refine Kd.C_alloc ?_ _) | (with_reducible refine Kd.C_drewN ?_ _) | (with_reducible refine Kd.C_drew ?_))); (case side4 => exact HC0_1.out); rintro e w20 ⟨v248, v251, rfl, ho0, ho1, hb⟩; refine ⟨_, rfl, ?_⟩; have n0_ := Aside0.mk (Kd.R_lower ho0 (below_size (by repeat (first | (with_reducible first | exact HB.out | apply below_alloc | apply pw_below_drewN | apply below_drew1 | refine below_set ?_ GE243.out) | exact HB.out | exact Below.refl _ _)))); have n1_ := Aside0.mk (Kd.R_lower ho1 (below_size (by repeat (first | (with_reducible first | exact HB.out | apply below_alloc | apply pw_below_drewN | apply below_drew1 | refine below_set ?_ GE243.out) | exact HB.out | exact Below.refl _ _)))); have n2_ := Aside0.mk (blk_below (g := gb243) (o := .cells #[.slice A0_0 l0_0.length c0_0, .slice A0_1 l0_1.length c0_1, .int .i64 a0_2, .int .i64 a0_3, .int .i64 a0_4, .int .i64 a0_5] 24 (0, 0)) (by (with_reducible repeat (first | refine blk_drewN ?_ _ | refine blk_drew ?_ | refine blk_alloc ?_ _)); exact BK243.out) hb); have n3_ := Aside0.mk (below_step (by repeat (first | (with_reducible first | exact HB.out | apply below_alloc | apply pw_below_drewN | apply below_drew1 | refine below_set ?_ GE243.out) | exact HB.out | exact Below.refl _ _)) hb); clear BK243; clear HB; have HO249 := n0_; have HO252 := n1_; have BK243 := n2_; have HB := n3_; clear n0_ n1_ n2_ n3_; (try clear hb); (try clear hb2); (try clear hk); (try clear hi); (try clear ho0); (try clear ho1)) | ((with_reducible refine gate_dst (N := 3) rfl ?_); (try (refine gate_guard (by rfl) ?_; dsimp only)); refine box_event ?hg (N := 3) ?hd (cs := #[.slice none 0 0, .slice none 0 0, .int .i64 0, .int .i64 0, .int .i64 0, .int .i64 0]) (t := 24) ?hr ?_; (case hd => rfl); (case hg => rfl); (case hr => first | (go_simp; done) | (go_simp; rfl)); intro gb257 hg w21 hbox hb; have n0_ := Aside0.mk (Kd.R_below (by (with_reducible repeat (first | apply Kd.R_alloc | apply Kd.R_drewN | apply Kd.R_drew)); exact HO249.out) hb); have n1_ := Aside0.mk (Kd.R_below (by (with_reducible repeat (first | apply Kd.R_alloc | apply Kd.R_drewN | apply Kd.R_drew)); exact HO252.out) hb); have n2_ := Aside0.mk (blk_below (g := gb243) (o := .cells #[.slice A0_0 l0_0.length c0_0, .slice A0_1 l0_1.length c0_1, .int .i64 a0_2, .int .i64 a0_3, .int .i64 a0_4, .int .i64 a0_5] 24 (0, 0)) (by (with_reducible repeat (first | refine blk_drewN ?_ _ | refine blk_drew ?_ | refine blk_alloc ?_ _)); exact BK243.out) hb); have n3_ := Aside0.mk (below_step (by repeat (first | (with_reducible first | exact HB.out | apply below_alloc | apply pw_below_drewN | apply below_drew1 | refine below_set ?_ GE243.out) | exact HB.out | exact Below.refl _ _)) hb); have n4_ := Aside0.mk (hbox); have n5_ := Aside0.mk ((by rw [hg]; exact (below_size (by repeat (first | (with_reducible first | exact HB.out | apply below_alloc | apply pw_below_drewN | apply below_drew1 | refine below_set ?_ GE243.out) | exact HB.out | exact Below.refl _ _))) : w.heap.size ≤ gb257)); have n6_ := Aside0.mk ((by rw [hg]; exact (below_size (by repeat (first | (with_reducible first | exact HB.out | apply below_alloc | apply pw_below_drewN | apply below_drew1 | refine below_set ?_ GE243.out) | exact HB.out | exact Below.refl _ _))) : w.heap.size ≤ gb257)); have n7_ := Aside0.mk ((by rw [hg]; exact Nat.ne_of_lt (blk_lt (g := gb243) (o := .cells #[.slice A0_0 l0_0.length c0_0, .slice A0_1 l0_1.length c0_1, .int .i64 a0_2, .int .i64 a0_3, .int .i64 a0_4, .int .i64 a0_5] 24 (0, 0)) (by (with_reducible repeat (first | refine blk_drewN ?_ _ | refine blk_drew ?_ | refine blk_alloc ?_ _)); exact BK243.out)) : gb243 ≠ gb257)); have n8_ := Aside0.mk ((by rw [hg]; exact Nat.ne_of_gt (blk_lt (g := gb243) (o := .cells #[.slice A0_0 l0_0.length c0_0, .slice A0_1 l0_1.length c0_1, .int .i64 a0_2, .int .i64 a0_3, .int .i64 a0_4, .int .i64 a0_5] 24 (0, 0)) (by (with_reducible repeat (first | refine blk_drewN ?_ _ | refine blk_drew ?_ | refine blk_alloc ?_ _)); exact BK243.out)) : gb257 ≠ gb243)); clear HO249; clear HO252; clear BK243; clear HB; have HO249 := n0_; have HO252 := n1_; have BK243 := n2_; have HB := n3_; have BK257 := n4_; have GW257 := n5_; have GE257 := n6_; have NB243_257 := n7_; have NB257_243 := n8_; clear n0_ n1_ n2_ n3_ n4_ n5_ n6_ n7_ n8_; clear hb hbox hg; obtain ⟨Ao22, co22, eo22⟩ := Kd.R_slice HO249.out; subst eo22; have hnb23 := NB257_243.out; have hnc23 := NB243_257.out; have hcz24_0 : w21.cell? ⟨gb257, 0, none⟩ = some (.slice none 0 0) := (blk_cell BK257.out 0).trans rfl; have hcz24_1 : w21.cell? ⟨gb257, 1, none⟩ = some (.slice none 0 0) := (blk_cell BK257.out 1).trans rfl; have hcz24_2 : w21.cell? ⟨gb257, 2, none⟩ = some (.int .i64 0) := (blk_cell BK257.out 2).trans rfl; have hcz24_3 : w21.cell? ⟨gb257, 3, none⟩ = some (.int .i64 0) := (blk_cell BK257.out 3).trans rfl; have hcz24_4 : w21.cell? ⟨gb257, 4, none⟩ = some (.int .i64 0) := (blk_cell BK257.out 4).trans rfl; have hcz24_5 : w21.cell? ⟨gb257, 5, none⟩ = some (.int .i64 0) := (blk_cell BK257.out 5).trans rfl; have hfz24_0 := blk_frozen BK257.out 0; have hfz24_1 := blk_frozen BK257.out 1; have hfz24_2 := blk_frozen BK257.out 2; have hfz24_3 := blk_frozen BK257.out 3; have hfz24_4 := blk_frozen BK257.out 4; have hfz24_5 := blk_frozen BK257.out 5; obtain ⟨Ao25, co25, eo25⟩ := Kd.R_slice HO252.out; subst eo25) | ((with_reducible refine gate_callee (f := 10) rfl ?_); refine goesL_ (some 22) rfl rfl Try.func10 (by kernel_rfl) rfl #[.agg #[.slice Ao22 t247.length co22, .slice Ao25 t250.length co25, .int .i64 t253, .int .i64 t254, .int .i64 t255, .int .i64 t256]] rfl (by (try simp only [List.map_toArray, List.map_cons, List.map_nil]); first | done | rfl | (simp only [List.length_drop, List.length_take]; rfl)) ?_; (with_reducible refine (record_Encode.calls kj1 _ _ t247 _ _ t250 t253 t254 t255 t256 t258 t261 _ ?side1 ?side2 ?side3 ?side4 A15.out).mono ?_); (case side1 => refine (Kd.R_reads' (e := 5) (base := w.heap.size) (ok := fun k_ => some k_ ≠ (.slice Ao25 t250.length co25 : Value).ownBlock) (n := t247.length) (c := co22) ?_).2.2; exact (by (with_reducible repeat (first | apply Kd.R_alloc | apply Kd.R_drewN | apply Kd.R_drew)); exact (Kd.R_mono (Kd.R_far (p := ⟨gb257, 5, none⟩) (Kd.R_far (p := ⟨gb257, 4, none⟩) (Kd.R_far (p := ⟨gb257, 3, none⟩) (Kd.R_far (p := ⟨gb257, 2, none⟩) (Kd.R_far (p := ⟨gb257, 1, none⟩) (Kd.R_far (p := ⟨gb257, 0, none⟩) (Kd.R_types HO249.out BK257.out (by decide)) (fun _ hk => hk.2) (.slice Ao22 t247.length co22)) (fun _ hk => hk.2) (.slice Ao25 t250.length co25)) (fun _ hk => hk.2) (.int .i64 t253)) (fun _ hk => hk.2) (.int .i64 t254)) (fun _ hk => hk.2) (.int .i64 t255)) (fun _ hk => hk.2) (.int .i64 t256)) (fun _ h_ => h_.1)))); (case side2 => exact (Kd.R_reads' HO249.out).2.1); (case side3 => refine (Kd.R_reads' (e := 5) (base := w.heap.size) (ok := fun k_ => some k_ ≠ (.slice Ao22 t247.length co22 : Value).ownBlock) (n := t250.length) (c := co25) ?_).2.2; exact (by (with_reducible repeat (first | apply Kd.R_alloc | apply Kd.R_drewN | apply Kd.R_drew)); exact (Kd.R_mono (Kd.R_far (p := ⟨gb257, 5, none⟩) (Kd.R_far (p := ⟨gb257, 4, none⟩) (Kd.R_far (p := ⟨gb257, 3, none⟩) (Kd.R_far (p := ⟨gb257, 2, none⟩) (Kd.R_far (p := ⟨gb257, 1, none⟩) (Kd.R_far (p := ⟨gb257, 0, none⟩) (Kd.R_types HO252.out BK257.out (by decide)) (fun _ hk => hk.2) (.slice Ao22 t247.length co22)) (fun _ hk => hk.2) (.slice Ao25 t250.length co25)) (fun _ hk => hk.2) (.int .i64 t253)) (fun _ hk => hk.2) (.int .i64 t254)) (fun _ hk => hk.2) (.int .i64 t255)) (fun _ hk => hk.2) (.int .i64 t256)) (fun _ h_ => h_.1)))); (case side4 => exact (Kd.R_reads' HO252.out).2.1); rintro e w26 ⟨v259, rfl, ho0, hb⟩; refine ⟨_, rfl, ?_⟩; have n0_ := Aside0.mk (Kd.R_elder' (by (with_reducible repeat (first | apply Kd.R_alloc | apply Kd.R_drewN | apply Kd.R_drew)); exact (Kd.R_mono (Kd.R_far (p := ⟨gb257, 5, none⟩) (Kd.R_far (p := ⟨gb257, 4, none⟩) (Kd.R_far (p := ⟨gb257, 3, none⟩) (Kd.R_far (p := ⟨gb257, 2, none⟩) (Kd.R_far (p := ⟨gb257, 1, none⟩) (Kd.R_far (p := ⟨gb257, 0, none⟩) (Kd.R_types HO249.out BK257.out (by decide)) (fun _ hk => hk.2) (.slice Ao22 t247.length co22)) (fun _ hk => hk.2) (.slice Ao25 t250.length co25)) (fun _ hk => hk.2) (.int .i64 t253)) (fun _ hk => hk.2) (.int .i64 t254)) (fun _ hk => hk.2) (.int .i64 t255)) (fun _ hk => hk.2) (.int .i64 t256)) (fun _ h_ => h_.1))) (Kd.R_base ho0) hb); have n1_ := Aside0.mk (Kd.R_elder' (by (with_reducible repeat (first | apply Kd.R_alloc | apply Kd.R_drewN | apply Kd.R_drew)); exact (Kd.R_mono (Kd.R_far (p := ⟨gb257, 5, none⟩) (Kd.R_far (p := ⟨gb257, 4, none⟩) (Kd.R_far (p := ⟨gb257, 3, none⟩) (Kd.R_far (p := ⟨gb257, 2, none⟩) (Kd.R_far (p := ⟨gb257, 1, none⟩) (Kd.R_far (p := ⟨gb257, 0, none⟩) (Kd.R_types HO252.out BK257.out (by decide)) (fun _ hk => hk.2) (.slice Ao22 t247.length co22)) (fun _ hk => hk.2) (.slice Ao25 t250.length co25)) (fun _ hk => hk.2) (.int .i64 t253)) (fun _ hk => hk.2) (.int .i64 t254)) (fun _ hk => hk.2) (.int .i64 t255)) (fun _ hk => hk.2) (.int .i64 t256)) (fun _ h_ => h_.1))) (Kd.R_base ho0) hb); have n2_ := Aside0.mk (Kd.R_lower (Kd.R_new' (Kd.R_new' ho0 (Kd.R_lt (by (with_reducible repeat (first | apply Kd.R_alloc | apply Kd.R_drewN | apply Kd.R_drew)); exact (Kd.R_mono (Kd.R_far (p := ⟨gb257, 5, none⟩) (Kd.R_far (p := ⟨gb257, 4, none⟩) (Kd.R_far (p := ⟨gb257, 3, none⟩) (Kd.R_far (p := ⟨gb257, 2, none⟩) (Kd.R_far (p := ⟨gb257, 1, none⟩) (Kd.R_far (p := ⟨gb257, 0, none⟩) (Kd.R_types HO249.out BK257.out (by decide)) (fun _ hk => hk.2) (.slice Ao22 t247.length co22)) (fun _ hk => hk.2) (.slice Ao25 t250.length co25)) (fun _ hk => hk.2) (.int .i64 t253)) (fun _ hk => hk.2) (.int .i64 t254)) (fun _ hk => hk.2) (.int .i64 t255)) (fun _ hk => hk.2) (.int .i64 t256)) (fun _ h_ => h_.1))))) (Kd.R_lt (by (with_reducible repeat (first | apply Kd.R_alloc | apply Kd.R_drewN | apply Kd.R_drew)); exact (Kd.R_mono (Kd.R_far (p := ⟨gb257, 5, none⟩) (Kd.R_far (p := ⟨gb257, 4, none⟩) (Kd.R_far (p := ⟨gb257, 3, none⟩) (Kd.R_far (p := ⟨gb257, 2, none⟩) (Kd.R_far (p := ⟨gb257, 1, none⟩) (Kd.R_far (p := ⟨gb257, 0, none⟩) (Kd.R_types HO252.out BK257.out (by decide)) (fun _ hk => hk.2) (.slice Ao22 t247.length co22)) (fun _ hk => hk.2) (.slice Ao25 t250.length co25)) (fun _ hk => hk.2) (.int .i64 t253)) (fun _ hk => hk.2) (.int .i64 t254)) (fun _ hk => hk.2) (.int .i64 t255)) (fun _ hk => hk.2) (.int .i64 t256)) (fun _ h_ => h_.1))))) (below_size (by repeat (first | (with_reducible first | exact HB.out | apply below_alloc | apply pw_below_drewN | apply below_drew1 | refine below_set ?_ GE243.out | refine below_set ?_ GE257.out) | exact HB.out | exact Below.refl _ _)))); have n3_ := Aside0.mk (blk_below (g := gb243) (o := .cells #[.slice A0_0 l0_0.length c0_0, .slice A0_1 l0_1.length c0_1, .int .i64 a0_2, .int .i64 a0_3, .int .i64 a0_4, .int .i64 a0_5] 24 (0, 0)) (by (with_reducible repeat (first | refine blk_drewN ?_ _ | refine blk_drew ?_ | refine blk_alloc ?_ _)); refine blk_far ?_ NB243_257.out _; (with_reducible repeat (first | refine blk_drewN ?_ _ | refine blk_drew ?_ | refine blk_alloc ?_ _)); refine blk_far ?_ NB243_257.out _; (with_reducible repeat (first | refine blk_drewN ?_ _ | refine blk_drew ?_ | refine blk_alloc ?_ _)); refine blk_far ?_ NB243_257.out _; (with_reducible repeat (first | refine blk_drewN ?_ _ | refine blk_drew ?_ | refine blk_alloc ?_ _)); refine blk_far ?_ NB243_257.out _; (with_reducible repeat (first | refine blk_drewN ?_ _ | refine blk_drew ?_ | refine blk_alloc ?_ _)); refine blk_far ?_ NB243_257.out _; (with_reducible repeat (first | refine blk_drewN ?_ _ | refine blk_drew ?_ | refine blk_alloc ?_ _)); refine blk_far ?_ NB243_257.out _; (with_reducible repeat (first | refine blk_drewN ?_ _ | refine blk_drew ?_ | refine blk_alloc ?_ _)); exact BK243.out) hb); have n4_ := Aside0.mk (blk_below (g := gb257) (o := .cells #[.slice Ao22 t247.length co22, .slice Ao25 t250.length co25, .int .i64 t253, .int .i64 t254, .int .i64 t255, .int .i64 t256] 24 (0, 0)) (by (with_reducible repeat (first | refine blk_drewN ?_ _ | refine blk_drew ?_ | refine blk_alloc ?_ _)); refine blk_put (cs := #[.slice Ao22 t247.length co22, .slice Ao25 t250.length co25, .int .i64 t253, .int .i64 t254, .int .i64 t255, .int .i64 0]) ?_ 5 _ rfl; (with_reducible repeat (first | refine blk_drewN ?_ _ | refine blk_drew ?_ | refine blk_alloc ?_ _)); refine blk_put (cs := #[.slice Ao22 t247.length co22, .slice Ao25 t250.length co25, .int .i64 t253, .int .i64 t254, .int .i64 0, .int .i64 0]) ?_ 4 _ rfl; (with_reducible repeat (first | refine blk_drewN ?_ _ | refine blk_drew ?_ | refine blk_alloc ?_ _)); refine blk_put (cs := #[.slice Ao22 t247.length co22, .slice Ao25 t250.length co25, .int .i64 t253, .int .i64 0, .int .i64 0, .int .i64 0]) ?_ 3 _ rfl; (with_reducible repeat (first | refine blk_drewN ?_ _ | refine blk_drew ?_ | refine blk_alloc ?_ _)); refine blk_put (cs := #[.slice Ao22 t247.length co22, .slice Ao25 t250.length co25, .int .i64 0, .int .i64 0, .int .i64 0, .int .i64 0]) ?_ 2 _ rfl; (with_reducible repeat (first | refine blk_drewN ?_ _ | refine blk_drew ?_ | refine blk_alloc ?_ _)); refine blk_put (cs := #[.slice Ao22 t247.length co22, .slice none 0 0, .int .i64 0, .int .i64 0, .int .i64 0, .int .i64 0]) ?_ 1 _ rfl; (with_reducible repeat (first | refine blk_drewN ?_ _ | refine blk_drew ?_ | refine blk_alloc ?_ _)); refine blk_put (cs := #[.slice none 0 0, .slice none 0 0, .int .i64 0, .int .i64 0, .int .i64 0, .int .i64 0]) ?_ 0 _ rfl; (with_reducible repeat (first | refine blk_drewN ?_ _ | refine blk_drew ?_ | refine blk_alloc ?_ _)); exact BK257.out) hb); have n5_ := Aside0.mk (below_step (by repeat (first | (with_reducible first | exact HB.out | apply below_alloc | apply pw_below_drewN | apply below_drew1 | refine below_set ?_ GE243.out | refine below_set ?_ GE257.out) | exact HB.out | exact Below.refl _ _)) hb); clear HO249; clear HO252; clear BK243; clear BK257; clear HB; have HO249 := n0_; have HO252 := n1_; have HO260 := n2_; have BK243 := n3_; have BK257 := n4_; have HB := n5_; clear n0_ n1_ n2_ n3_ n4_ n5_; (try clear hb); (try clear hb2); (try clear hk); (try clear hi); (try clear ho0); have hcz27_0 : w26.cell? ⟨gb257, 0, none⟩ = some (.slice Ao22 t247.length co22) := (blk_cell BK257.out 0).trans rfl; have hcz27_1 : w26.cell? ⟨gb257, 1, none⟩ = some (.slice Ao25 t250.length co25) := (blk_cell BK257.out 1).trans rfl; have hcz27_2 : w26.cell? ⟨gb257, 2, none⟩ = some (.int .i64 t253) := (blk_cell BK257.out 2).trans rfl; have hcz27_3 : w26.cell? ⟨gb257, 3, none⟩ = some (.int .i64 t254) := (blk_cell BK257.out 3).trans rfl; have hcz27_4 : w26.cell? ⟨gb257, 4, none⟩ = some (.int .i64 t255) := (blk_cell BK257.out 4).trans rfl; have hcz27_5 : w26.cell? ⟨gb257, 5, none⟩ = some (.int .i64 t256) := (blk_cell BK257.out 5).trans rfl; have hfz27_0 := blk_frozen BK257.out 0; have hfz27_1 := blk_frozen BK257.out 1; have hfz27_2 := blk_frozen BK257.out 2; have hfz27_3 := blk_frozen BK257.out 3; have hfz27_4 := blk_frozen BK257.out 4; have hfz27_5 := blk_frozen BK257.out 5) | ((with_reducible refine gate_callee (f := 11) rfl ?_); refine goesL_ (some 28) rfl rfl Try.func11 (by kernel_rfl) rfl #[.slice Ao22 t247.length co22] rfl (by (try simp only [List.map_toArray, List.map_cons, List.map_nil]); first | done | rfl | (simp only [List.length_drop, List.length_take]; rfl)) ?_; (with_reducible refine (record_Tomb.calls kj1 _ _ t247 t262 t263 _ ?side1 ?side2 A16.out).mono ?_); (case side1 => repeat (first | exact (Kd.R_reads' HO249.out).2.2 | (with_reducible refine Kd.C_alloc ?_ _) | (with_reducible refine Kd.C_drewN ?_ _) | (with_reducible refine Kd.C_drew ?_))); (case side2 => exact (Kd.R_reads' HO249.out).2.1); rintro e w28 ⟨v264, rfl, ho0, hb⟩; refine ⟨_, rfl, ?_⟩; have n0_ := Aside0.mk (Kd.R_elder' (by (with_reducible repeat (first | apply Kd.R_alloc | apply Kd.R_drewN | apply Kd.R_drew)); exact HO249.out) (Kd.R_base ho0) hb); have n1_ := Aside0.mk (Kd.R_elder' (by (with_reducible repeat (first | apply Kd.R_alloc | apply Kd.R_drewN | apply Kd.R_drew)); exact HO252.out) (Kd.R_base ho0) hb); have n2_ := Aside0.mk (Kd.R_elder' (by (with_reducible repeat (first | apply Kd.R_alloc | apply Kd.R_drewN | apply Kd.R_drew)); exact HO260.out) (Kd.R_base ho0) hb); have n3_ := Aside0.mk (Kd.R_lower (Kd.R_new' (Kd.R_new' (Kd.R_new' ho0 (Kd.R_lt (by (with_reducible repeat (first | apply Kd.R_alloc | apply Kd.R_drewN | apply Kd.R_drew)); exact HO249.out))) (Kd.R_lt (by (with_reducible repeat (first | apply Kd.R_alloc | apply Kd.R_drewN | apply Kd.R_drew)); exact HO252.out))) (Kd.R_lt (by (with_reducible repeat (first | apply Kd.R_alloc | apply Kd.R_drewN | apply Kd.R_drew)); exact HO260.out))) (below_size (by repeat (first | (with_reducible first | exact HB.out | apply below_alloc | apply pw_below_drewN | apply below_drew1 | refine below_set ?_ GE243.out | refine below_set ?_ GE257.out) | exact HB.out | exact Below.refl _ _)))); have n4_ := Aside0.mk (blk_below (g := gb243) (o := .cells #[.slice A0_0 l0_0.length c0_0, .slice A0_1 l0_1.length c0_1, .int .i64 a0_2, .int .i64 a0_3, .int .i64 a0_4, .int .i64 a0_5] 24 (0, 0)) (by (with_reducible repeat (first | refine blk_drewN ?_ _ | refine blk_drew ?_ | refine blk_alloc ?_ _)); exact BK243.out) hb); have n5_ := Aside0.mk (blk_below (g := gb257) (o := .cells #[.slice Ao22 t247.length co22, .slice Ao25 t250.length co25, .int .i64 t253, .int .i64 t254, .int .i64 t255, .int .i64 t256] 24 (0, 0)) (by (with_reducible repeat (first | refine blk_drewN ?_ _ | refine blk_drew ?_ | refine blk_alloc ?_ _)); exact BK257.out) hb); have n6_ := Aside0.mk (below_step (by repeat (first | (with_reducible first | exact HB.out | apply below_alloc | apply pw_below_drewN | apply below_drew1 | refine below_set ?_ GE243.out | refine below_set ?_ GE257.out) | exact HB.out | exact Below.refl _ _)) hb); clear HO249; clear HO252; clear HO260; clear BK243; clear BK257; clear HB; have HO249 := n0_; have HO252 := n1_; have HO260 := n2_; have HO265 := n3_; have BK243 := n4_; have BK257 := n5_; have HB := n6_; clear n0_ n1_ n2_ n3_ n4_ n5_ n6_; (try clear hb); (try clear hb2); (try clear hk); (try clear hi); (try clear ho0); have hcz29_0 : w28.cell? ⟨gb243, 0, none⟩ = some (.slice A0_0 l0_0.length c0_0) := (blk_cell BK243.out 0).trans rfl; have hcz29_1 : w28.cell? ⟨gb243, 1, none⟩ = some (.slice A0_1 l0_1.length c0_1) := (blk_cell BK243.out 1).trans rfl; have hcz29_2 : w28.cell? ⟨gb243, 2, none⟩ = some (.int .i64 a0_2) := (blk_cell BK243.out 2).trans rfl; have hcz29_3 : w28.cell? ⟨gb243, 3, none⟩ = some (.int .i64 a0_3) := (blk_cell BK243.out 3).trans rfl; have hcz29_4 : w28.cell? ⟨gb243, 4, none⟩ = some (.int .i64 a0_4) := (blk_cell BK243.out 4).trans rfl; have hcz29_5 : w28.cell? ⟨gb243, 5, none⟩ = some (.int .i64 a0_5) := (blk_cell BK243.out 5).trans rfl; have hfz29_0 := blk_frozen BK243.out 0; have hfz29_1 := blk_frozen BK243.out 1; have hfz29_2 := blk_frozen BK243.out 2; have hfz29_3 := blk_frozen BK243.out 3; have hfz29_4 := blk_frozen BK243.out 4; have hfz29_5 := blk_frozen BK243.out 5) | ((with_reducible refine gate_callee (f := 12) rfl ?_); refine goesL_ (some 32) rfl rfl Try.func12 (by kernel_rfl) rfl #[.agg #[.slice A0_0 l0_0.length c0_0, .slice A0_1 l0_1.length c0_1, .int .i64 a0_2, .int .i64 a0_3, .int .i64 a0_4, .int .i64 a0_5]] rfl (by (try simp only [List.map_toArray, List.map_cons, List.map_nil]); first | done | rfl | (simp only [List.length_drop, List.length_take]; rfl)) ?_; (with_reducible refine (terrierref13_Right.calls _ _ l0_0 _ _ l0_1 a0_2 a0_3 a0_4 a0_5 t266 _ ?side1 ?side2 ?side3 ?side4 A17.out).mono ?_); (case side1 => repeat (first | exact (Kd.C_below HR0_0.out HB.out) | exact HR0_0.out | (with_reducible refine Kd.C_alloc ?_ _) | (with_reducible refine Kd.C_drewN ?_ _) | (with_reducible refine Kd.C_drew ?_))); (case side2 => exact HC0_0.out); (case side3 => repeat (first | exact (Kd.C_below HR0_1.out HB.out) | exact HR0_1.out | (with_reducible refine Kd.C_alloc ?_ _) | (with_reducible refine Kd.C_drewN ?_ _) | (with_reducible refine Kd.C_drew ?_))); (case side4 => exact HC0_1.out); rintro e w30 ⟨rfl, hb⟩; refine ⟨_, rfl, ?_⟩; have n0_ := Aside0.mk (Kd.R_below (by (with_reducible repeat (first | apply Kd.R_alloc | apply Kd.R_drewN | apply Kd.R_drew)); exact HO249.out) hb); have n1_ := Aside0.mk (Kd.R_below (by (with_reducible repeat (first | apply Kd.R_alloc | apply Kd.R_drewN | apply Kd.R_drew)); exact HO252.out) hb); have n2_ := Aside0.mk (Kd.R_below (by (with_reducible repeat (first | apply Kd.R_alloc | apply Kd.R_drewN | apply Kd.R_drew)); exact HO260.out) hb); have n3_ := Aside0.mk (Kd.R_below (by (with_reducible repeat (first | apply Kd.R_alloc | apply Kd.R_drewN | apply Kd.R_drew)); exact HO265.out) hb); have n4_ := Aside0.mk (blk_below (g := gb243) (o := .cells #[.slice A0_0 l0_0.length c0_0, .slice A0_1 l0_1.length c0_1, .int .i64 a0_2, .int .i64 a0_3, .int .i64 a0_4, .int .i64 a0_5] 24 (0, 0)) (by (with_reducible repeat (first | refine blk_drewN ?_ _ | refine blk_drew ?_ | refine blk_alloc ?_ _)); exact BK243.out) hb); have n5_ := Aside0.mk (blk_below (g := gb257) (o := .cells #[.slice Ao22 t247.length co22, .slice Ao25 t250.length co25, .int .i64 t253, .int .i64 t254, .int .i64 t255, .int .i64 t256] 24 (0, 0)) (by (with_reducible repeat (first | refine blk_drewN ?_ _ | refine blk_drew ?_ | refine blk_alloc ?_ _)); exact BK257.out) hb); have n6_ := Aside0.mk (below_step (by repeat (first | (with_reducible first | exact HB.out | apply below_alloc | apply pw_below_drewN | apply below_drew1 | refine below_set ?_ GE243.out | refine below_set ?_ GE257.out) | exact HB.out | exact Below.refl _ _)) hb); clear HO249; clear HO252; clear HO260; clear HO265; clear BK243; clear BK257; clear HB; have HO249 := n0_; have HO252 := n1_; have HO260 := n2_; have HO265 := n3_; have BK243 := n4_; have BK257 := n5_; have HB := n6_; clear n0_ n1_ n2_ n3_ n4_ n5_ n6_; (try clear hb); (try clear hb2); (try clear hk); (try clear hi)))
        (try simp only [Act.put, List.setIfInBounds_toArray, List.set_cons_zero, List.set_cons_succ])
        go_cut [9] (fun v9 wc => ∃ (kq : Nat) (x9_17 : Bool), v9 = .bool x9_17 ∧ Aside0 (terrierlaw13_RecordCodes.j1 kq t258 t261 t262 t263 t266 x9_17 l0_0 l0_1 a0_2 a0_3 a0_4 a0_5 t247 t250 t253 t254 t255 t256 = some r) ∧ Aside0 (kq ≤ kj1) ∧ Aside0 (Kd.R (Kd.int .u8) 5 wc w.heap.size (fun k_ => some k_ ≠ (v264 : Value).ownBlock ∧ some k_ ≠ ((.slice Ao22 t247.length co22) : Value).ownBlock ∧ some k_ ≠ ((.slice Ao25 t250.length co25) : Value).ownBlock) v259 t258) ∧ Aside0 (Kd.R (Kd.int .u8) 5 wc w.heap.size (fun k_ => some k_ ≠ (v259 : Value).ownBlock ∧ some k_ ≠ ((.slice Ao22 t247.length co22) : Value).ownBlock ∧ some k_ ≠ ((.slice Ao25 t250.length co25) : Value).ownBlock) v264 t262) ∧ Aside0 (Kd.R (Kd.int .u8) 5 wc w.heap.size (fun k_ => some k_ ≠ (v259 : Value).ownBlock ∧ some k_ ≠ (v264 : Value).ownBlock ∧ some k_ ≠ ((.slice Ao25 t250.length co25) : Value).ownBlock) (.slice Ao22 t247.length co22) t247) ∧ Aside0 (Kd.R (Kd.int .u8) 5 wc w.heap.size (fun k_ => some k_ ≠ (v259 : Value).ownBlock ∧ some k_ ≠ (v264 : Value).ownBlock ∧ some k_ ≠ ((.slice Ao22 t247.length co22) : Value).ownBlock) (.slice Ao25 t250.length co25) t250) ∧ Aside0 (wc.heap[gb243]? = some (.cells #[(.slice A0_0 l0_0.length c0_0), (.slice A0_1 l0_1.length c0_1), .int .i64 a0_2, .int .i64 a0_3, .int .i64 a0_4, .int .i64 a0_5] 24 (0, 0))) ∧ Aside0 (wc.heap[gb257]? = some (.cells #[(.slice Ao22 t247.length co22), (.slice Ao25 t250.length co25), .int .i64 t253, .int .i64 t254, .int .i64 t255, .int .i64 t256] 24 (0, 0))) ∧ Aside0 (Below w.heap.size w wc))
        case first =>
          have H := HC18.out
          clear HC18
          by_cases c31 : (l0_0.length : Int) ≥ 1
          · rw [if_pos c31] at H
            have c31b0 : decide (1 ≤ (l0_0.length : Int)) = true := decide_eq_true c31
            have c31b1 : decide (1 ≤ l0_0.length) = true := decide_eq_true (by omega)
            clear c31
            (first | rw [c31b0] | (simp only [i64_w, i32_w]; rw [c31b0]) | skip)
            have H' := Aside0.mk H
            clear H
            have hnb32 := NB243_257.out
            have hnc32 := NB257_243.out
            have hcz33_0 : w30.cell? ⟨gb243, 0, none⟩ = some (.slice A0_0 l0_0.length c0_0) := (blk_cell BK243.out 0).trans rfl
            have hcz33_1 : w30.cell? ⟨gb243, 1, none⟩ = some (.slice A0_1 l0_1.length c0_1) := (blk_cell BK243.out 1).trans rfl
            have hcz33_2 : w30.cell? ⟨gb243, 2, none⟩ = some (.int .i64 a0_2) := (blk_cell BK243.out 2).trans rfl
            have hcz33_3 : w30.cell? ⟨gb243, 3, none⟩ = some (.int .i64 a0_3) := (blk_cell BK243.out 3).trans rfl
            have hcz33_4 : w30.cell? ⟨gb243, 4, none⟩ = some (.int .i64 a0_4) := (blk_cell BK243.out 4).trans rfl
            have hcz33_5 : w30.cell? ⟨gb243, 5, none⟩ = some (.int .i64 a0_5) := (blk_cell BK243.out 5).trans rfl
            have hfz33_0 := blk_frozen BK243.out 0
            have hfz33_1 := blk_frozen BK243.out 1
            have hfz33_2 := blk_frozen BK243.out 2
            have hfz33_3 := blk_frozen BK243.out 3
            have hfz33_4 := blk_frozen BK243.out 4
            have hfz33_5 := blk_frozen BK243.out 5
            go_wp2
            go_meet
            case rel => exact ⟨_, (decide ((l0_0.length : Int) ≤ 64)), (by first | rfl | (simp; done) | (simp [*]; done)), H', ⟨by have := HJ1.out; first | omega | exact Nat.le_refl _⟩, ⟨by (with_reducible repeat (first | apply Kd.R_alloc | apply Kd.R_drewN | apply Kd.R_drew)); exact Kd.R_mono HO260.out (fun _ hk => ⟨hk.2, ⟨hk.1.1.2, hk.1.2⟩⟩)⟩, ⟨by (with_reducible repeat (first | apply Kd.R_alloc | apply Kd.R_drewN | apply Kd.R_drew)); exact Kd.R_mono HO265.out (fun _ hk => ⟨hk.2, ⟨hk.1.1.2, hk.1.2⟩⟩)⟩, ⟨by (with_reducible repeat (first | apply Kd.R_alloc | apply Kd.R_drewN | apply Kd.R_drew)); exact Kd.R_mono HO249.out (fun _ hk => ⟨hk.1.2, ⟨hk.2, hk.1.1⟩⟩)⟩, ⟨by (with_reducible repeat (first | apply Kd.R_alloc | apply Kd.R_drewN | apply Kd.R_drew)); exact Kd.R_mono HO252.out (fun _ hk => ⟨hk.1.2, ⟨hk.2, hk.1.1⟩⟩)⟩, ⟨by (with_reducible repeat (first | refine blk_drewN ?_ _ | refine blk_drew ?_ | refine blk_alloc ?_ _)); exact BK243.out⟩, ⟨by (with_reducible repeat (first | refine blk_drewN ?_ _ | refine blk_drew ?_ | refine blk_alloc ?_ _)); exact BK257.out⟩, ⟨by repeat (first | (with_reducible first | exact HB.out | apply below_alloc | apply pw_below_drewN | apply below_drew1 | refine below_set ?_ GE243.out | refine below_set ?_ GE257.out) | exact HB.out | exact Below.refl _ _)⟩⟩
          · rw [if_neg c31] at H
            have c31b0 : decide (1 ≤ (l0_0.length : Int)) = false := decide_eq_false c31
            have c31b1 : decide (1 ≤ l0_0.length) = false := decide_eq_false (by omega)
            clear c31
            (first | rw [c31b0] | (simp only [i64_w, i32_w]; rw [c31b0]) | skip)
            have H' := Aside0.mk H
            clear H
            have hnb34 := NB243_257.out
            have hnc34 := NB257_243.out
            have hcz35_0 : w30.cell? ⟨gb243, 0, none⟩ = some (.slice A0_0 l0_0.length c0_0) := (blk_cell BK243.out 0).trans rfl
            have hcz35_1 : w30.cell? ⟨gb243, 1, none⟩ = some (.slice A0_1 l0_1.length c0_1) := (blk_cell BK243.out 1).trans rfl
            have hcz35_2 : w30.cell? ⟨gb243, 2, none⟩ = some (.int .i64 a0_2) := (blk_cell BK243.out 2).trans rfl
            have hcz35_3 : w30.cell? ⟨gb243, 3, none⟩ = some (.int .i64 a0_3) := (blk_cell BK243.out 3).trans rfl
            have hcz35_4 : w30.cell? ⟨gb243, 4, none⟩ = some (.int .i64 a0_4) := (blk_cell BK243.out 4).trans rfl
            have hcz35_5 : w30.cell? ⟨gb243, 5, none⟩ = some (.int .i64 a0_5) := (blk_cell BK243.out 5).trans rfl
            have hfz35_0 := blk_frozen BK243.out 0
            have hfz35_1 := blk_frozen BK243.out 1
            have hfz35_2 := blk_frozen BK243.out 2
            have hfz35_3 := blk_frozen BK243.out 3
            have hfz35_4 := blk_frozen BK243.out 4
            have hfz35_5 := blk_frozen BK243.out 5
            go_wp2
            go_meet
            case rel => exact ⟨_, (false), (by first | rfl | (simp; done) | (simp [*]; done)), H', ⟨by have := HJ1.out; first | omega | exact Nat.le_refl _⟩, ⟨by (with_reducible repeat (first | apply Kd.R_alloc | apply Kd.R_drewN | apply Kd.R_drew)); exact Kd.R_mono HO260.out (fun _ hk => ⟨hk.2, ⟨hk.1.1.2, hk.1.2⟩⟩)⟩, ⟨by (with_reducible repeat (first | apply Kd.R_alloc | apply Kd.R_drewN | apply Kd.R_drew)); exact Kd.R_mono HO265.out (fun _ hk => ⟨hk.2, ⟨hk.1.1.2, hk.1.2⟩⟩)⟩, ⟨by (with_reducible repeat (first | apply Kd.R_alloc | apply Kd.R_drewN | apply Kd.R_drew)); exact Kd.R_mono HO249.out (fun _ hk => ⟨hk.1.2, ⟨hk.2, hk.1.1⟩⟩)⟩, ⟨by (with_reducible repeat (first | apply Kd.R_alloc | apply Kd.R_drewN | apply Kd.R_drew)); exact Kd.R_mono HO252.out (fun _ hk => ⟨hk.1.2, ⟨hk.2, hk.1.1⟩⟩)⟩, ⟨by (with_reducible repeat (first | refine blk_drewN ?_ _ | refine blk_drew ?_ | refine blk_alloc ?_ _)); exact BK243.out⟩, ⟨by (with_reducible repeat (first | refine blk_drewN ?_ _ | refine blk_drew ?_ | refine blk_alloc ?_ _)); exact BK257.out⟩, ⟨by repeat (first | (with_reducible first | exact HB.out | apply below_alloc | apply pw_below_drewN | apply below_drew1 | refine below_set ?_ GE243.out | refine below_set ?_ GE257.out) | exact HB.out | exact Below.refl _ _)⟩⟩
        case rest =>
          clear HC18
          try clear c1
          try clear c2
          try clear p2
          try clear c3
          try clear c5
          try clear c7
          try clear c9
          try clear c10
          try clear c11
          try clear c12
          try clear c23
          try clear c31
          try clear c31b0
          try clear c31b1
          try clear c32
          try clear c34
          try clear hcz19_0
          try clear hcz19_1
          try clear hcz19_2
          try clear hcz19_3
          try clear hcz19_4
          try clear hcz19_5
          try clear hcz24_0
          try clear hcz24_1
          try clear hcz24_2
          try clear hcz24_3
          try clear hcz24_4
          try clear hcz24_5
          try clear hcz27_0
          try clear hcz27_1
          try clear hcz27_2
          try clear hcz27_3
          try clear hcz27_4
          try clear hcz27_5
          try clear hcz29_0
          try clear hcz29_1
          try clear hcz29_2
          try clear hcz29_3
          try clear hcz29_4
          try clear hcz29_5
          try clear hcz33_0
          try clear hcz33_1
          try clear hcz33_2
          try clear hcz33_3
          try clear hcz33_4
          try clear hcz33_5
          try clear hcz35_0
          try clear hcz35_1
          try clear hcz35_2
          try clear hcz35_3
          try clear hcz35_4
          try clear hcz35_5
          try clear hcz8_0
          try clear hcz8_1
          try clear hcz8_2
          try clear hcz8_3
          try clear hcz8_4
          try clear hcz8_5
          try clear hfz19_0
          try clear hfz19_1
          try clear hfz19_2
          try clear hfz19_3
          try clear hfz19_4
          try clear hfz19_5
          try clear hfz24_0
          try clear hfz24_1
          try clear hfz24_2
          try clear hfz24_3
          try clear hfz24_4
          try clear hfz24_5
          try clear hfz27_0
          try clear hfz27_1
          try clear hfz27_2
          try clear hfz27_3
          try clear hfz27_4
          try clear hfz27_5
          try clear hfz29_0
          try clear hfz29_1
          try clear hfz29_2
          try clear hfz29_3
          try clear hfz29_4
          try clear hfz29_5
          try clear hfz33_0
          try clear hfz33_1
          try clear hfz33_2
          try clear hfz33_3
          try clear hfz33_4
          try clear hfz33_5
          try clear hfz35_0
          try clear hfz35_1
          try clear hfz35_2
          try clear hfz35_3
          try clear hfz35_4
          try clear hfz35_5
          try clear hfz8_0
          try clear hfz8_1
          try clear hfz8_2
          try clear hfz8_3
          try clear hfz8_4
          try clear hfz8_5
          try clear p2
          obtain ⟨kq, x9_17, rfl, HA, HJ17, HO_4, HO_6, HO_258000, HO_258001, BK243, BK257, HB⟩ := hcut
          cases kq with
          | zero => exact absurd HA.out (by simp [terrierlaw13_RecordCodes.j1])
          | succ kj17 =>
            have H := HA.out
            clear HA
            simp only [terrierlaw13_RecordCodes.j1] at H
            have HC36 := Aside0.mk H
            clear H
            go_upto_region 8 with (fail)
            go_cut [52] (fun v52 wc => ∃ (kq : Nat) (x52_35 : Bool), v52 = .bool x52_35 ∧ Aside0 (terrierlaw13_RecordCodes.j2 kq t258 t261 t262 t263 t266 x9_17 x52_35 l0_0 l0_1 a0_2 a0_3 a0_4 a0_5 = some r) ∧ Aside0 (kq ≤ kj17) ∧ Aside0 (Kd.R (Kd.int .u8) 5 wc w.heap.size (fun k_ => some k_ ≠ (v264 : Value).ownBlock ∧ some k_ ≠ ((.slice Ao22 t247.length co22) : Value).ownBlock ∧ some k_ ≠ ((.slice Ao25 t250.length co25) : Value).ownBlock) v259 t258) ∧ Aside0 (Kd.R (Kd.int .u8) 5 wc w.heap.size (fun k_ => some k_ ≠ (v259 : Value).ownBlock ∧ some k_ ≠ ((.slice Ao22 t247.length co22) : Value).ownBlock ∧ some k_ ≠ ((.slice Ao25 t250.length co25) : Value).ownBlock) v264 t262) ∧ Aside0 (Kd.R (Kd.int .u8) 5 wc w.heap.size (fun k_ => some k_ ≠ (v259 : Value).ownBlock ∧ some k_ ≠ (v264 : Value).ownBlock ∧ some k_ ≠ ((.slice Ao25 t250.length co25) : Value).ownBlock) (.slice Ao22 t247.length co22) t247) ∧ Aside0 (Kd.R (Kd.int .u8) 5 wc w.heap.size (fun k_ => some k_ ≠ (v259 : Value).ownBlock ∧ some k_ ≠ (v264 : Value).ownBlock ∧ some k_ ≠ ((.slice Ao22 t247.length co22) : Value).ownBlock) (.slice Ao25 t250.length co25) t250) ∧ Aside0 (wc.heap[gb243]? = some (.cells #[(.slice A0_0 l0_0.length c0_0), (.slice A0_1 l0_1.length c0_1), .int .i64 a0_2, .int .i64 a0_3, .int .i64 a0_4, .int .i64 a0_5] 24 (0, 0))) ∧ Aside0 (wc.heap[gb257]? = some (.cells #[(.slice Ao22 t247.length co22), (.slice Ao25 t250.length co25), .int .i64 t253, .int .i64 t254, .int .i64 t255, .int .i64 t256] 24 (0, 0))) ∧ Aside0 (Below w.heap.size w wc))
            case first =>
              have H := HC36.out
              clear HC36
              replace H := Option.bind_eq_some_iff.mp H
              obtain ⟨t267, A370, H⟩ := H
              replace H : (if (t267 != t266) = true then (terrierlaw13_RecordCodes.j2 kj17 t258 t261 t262 t263 t266 x9_17 true l0_0 l0_1 a0_2 a0_3 a0_4 a0_5) else ((terrierref13_Same.f t247 t250 t253 t254 t255 t256 l0_0 l0_1 a0_2 a0_3 a0_4 a0_5).bind fun t268 => (terrierlaw13_RecordCodes.j2 kj17 t258 t261 t262 t263 t266 x9_17 (!t268) l0_0 l0_1 a0_2 a0_3 a0_4 a0_5))) = some r := H
              have A37 := Aside0.mk A370
              clear A370
              by_cases c38 : (t267 != t266) = true
              · rw [if_pos c38] at H
                have c38b0 : (t267 != t266) = true := c38
                (try (have c38b1 : decide (t267 = t266) = false := by simpa using c38))
                (try (have c38b2 : (t267 == t266) = false := by simpa using c38))
                (try (have c38b3 : ¬ (t267 = t266) := by simpa using c38))
                clear c38
                (first | rw [c38b0] | (simp only [i64_w, i32_w]; rw [c38b0]) | skip)
                have H' := Aside0.mk H
                clear H
                have hnb39 := NB257_243.out
                have hnc39 := NB243_257.out
                have hcz40_0 : wc.cell? ⟨gb257, 0, none⟩ = some (.slice Ao22 t247.length co22) := (blk_cell BK257.out 0).trans rfl
                have hcz40_1 : wc.cell? ⟨gb257, 1, none⟩ = some (.slice Ao25 t250.length co25) := (blk_cell BK257.out 1).trans rfl
                have hcz40_2 : wc.cell? ⟨gb257, 2, none⟩ = some (.int .i64 t253) := (blk_cell BK257.out 2).trans rfl
                have hcz40_3 : wc.cell? ⟨gb257, 3, none⟩ = some (.int .i64 t254) := (blk_cell BK257.out 3).trans rfl
                have hcz40_4 : wc.cell? ⟨gb257, 4, none⟩ = some (.int .i64 t255) := (blk_cell BK257.out 4).trans rfl
                have hcz40_5 : wc.cell? ⟨gb257, 5, none⟩ = some (.int .i64 t256) := (blk_cell BK257.out 5).trans rfl
                have hfz40_0 := blk_frozen BK257.out 0
                have hfz40_1 := blk_frozen BK257.out 1
                have hfz40_2 := blk_frozen BK257.out 2
                have hfz40_3 := blk_frozen BK257.out 3
                have hfz40_4 := blk_frozen BK257.out 4
                have hfz40_5 := blk_frozen BK257.out 5
                go_wp2_with (first | ((with_reducible refine gate_callee (f := 13) rfl ?_); refine goesL_ (some 44) rfl rfl Try.func13 (by kernel_rfl) rfl #[.agg #[.slice Ao22 t247.length co22, .slice Ao25 t250.length co25, .int .i64 t253, .int .i64 t254, .int .i64 t255, .int .i64 t256]] rfl (by (try simp only [List.map_toArray, List.map_cons, List.map_nil]); first | done | rfl | (simp only [List.length_drop, List.length_take]; rfl)) ?_; (with_reducible refine (record_Right.calls _ _ t247 _ _ t250 t253 t254 t255 t256 t267 _ ?side1 ?side2 ?side3 ?side4 A37.out).mono ?_); (case side1 => repeat (first | exact (Kd.R_reads' HO_258000.out).2.2 | (with_reducible refine Kd.C_alloc ?_ _) | (with_reducible refine Kd.C_drewN ?_ _) | (with_reducible refine Kd.C_drew ?_))); (case side2 => exact (Kd.R_reads' HO_258000.out).2.1); (case side3 => repeat (first | exact (Kd.R_reads' HO_258001.out).2.2 | (with_reducible refine Kd.C_alloc ?_ _) | (with_reducible refine Kd.C_drewN ?_ _) | (with_reducible refine Kd.C_drew ?_))); (case side4 => exact (Kd.R_reads' HO_258001.out).2.1); rintro e w41 ⟨rfl, hb⟩; refine ⟨_, rfl, ?_⟩; have n0_ := Aside0.mk (Kd.R_below (by (with_reducible repeat (first | apply Kd.R_alloc | apply Kd.R_drewN | apply Kd.R_drew)); exact HO_4.out) hb); have n1_ := Aside0.mk (Kd.R_below (by (with_reducible repeat (first | apply Kd.R_alloc | apply Kd.R_drewN | apply Kd.R_drew)); exact HO_6.out) hb); have n2_ := Aside0.mk (Kd.R_below (by (with_reducible repeat (first | apply Kd.R_alloc | apply Kd.R_drewN | apply Kd.R_drew)); exact HO_258000.out) hb); have n3_ := Aside0.mk (Kd.R_below (by (with_reducible repeat (first | apply Kd.R_alloc | apply Kd.R_drewN | apply Kd.R_drew)); exact HO_258001.out) hb); have n4_ := Aside0.mk (blk_below (g := gb243) (o := .cells #[.slice A0_0 l0_0.length c0_0, .slice A0_1 l0_1.length c0_1, .int .i64 a0_2, .int .i64 a0_3, .int .i64 a0_4, .int .i64 a0_5] 24 (0, 0)) (by (with_reducible repeat (first | refine blk_drewN ?_ _ | refine blk_drew ?_ | refine blk_alloc ?_ _)); exact BK243.out) hb); have n5_ := Aside0.mk (blk_below (g := gb257) (o := .cells #[.slice Ao22 t247.length co22, .slice Ao25 t250.length co25, .int .i64 t253, .int .i64 t254, .int .i64 t255, .int .i64 t256] 24 (0, 0)) (by (with_reducible repeat (first | refine blk_drewN ?_ _ | refine blk_drew ?_ | refine blk_alloc ?_ _)); exact BK257.out) hb); have n6_ := Aside0.mk (below_step (by repeat (first | (with_reducible first | exact HB.out | apply below_alloc | apply pw_below_drewN | apply below_drew1 | refine below_set ?_ GE243.out | refine below_set ?_ GE257.out) | exact HB.out | exact Below.refl _ _)) hb); clear HO_4; clear HO_6; clear HO_258000; clear HO_258001; clear BK243; clear BK257; clear HB; have HO_4 := n0_; have HO_6 := n1_; have HO_258000 := n2_; have HO_258001 := n3_; have BK243 := n4_; have BK257 := n5_; have HB := n6_; clear n0_ n1_ n2_ n3_ n4_ n5_ n6_; (try clear hb); (try clear hb2); (try clear hk); (try clear hi)))
                go_meet
                case rel => exact ⟨_, (true), (by first | rfl | (simp; done) | (simp [*]; done)), H', ⟨by have := HJ1.out; have := HJ17.out; first | omega | exact Nat.le_refl _⟩, ⟨by (with_reducible repeat (first | apply Kd.R_alloc | apply Kd.R_drewN | apply Kd.R_drew)); exact HO_4.out⟩, ⟨by (with_reducible repeat (first | apply Kd.R_alloc | apply Kd.R_drewN | apply Kd.R_drew)); exact HO_6.out⟩, ⟨by (with_reducible repeat (first | apply Kd.R_alloc | apply Kd.R_drewN | apply Kd.R_drew)); exact HO_258000.out⟩, ⟨by (with_reducible repeat (first | apply Kd.R_alloc | apply Kd.R_drewN | apply Kd.R_drew)); exact HO_258001.out⟩, ⟨by (with_reducible repeat (first | refine blk_drewN ?_ _ | refine blk_drew ?_ | refine blk_alloc ?_ _)); exact BK243.out⟩, ⟨by (with_reducible repeat (first | refine blk_drewN ?_ _ | refine blk_drew ?_ | refine blk_alloc ?_ _)); exact BK257.out⟩, ⟨by repeat (first | (with_reducible first | exact HB.out | apply below_alloc | apply pw_below_drewN | apply below_drew1 | refine below_set ?_ GE243.out | refine below_set ?_ GE257.out) | exact HB.out | exact Below.refl _ _)⟩⟩
              · rw [if_neg c38] at H
                have c38b0 : (t267 != t266) = false := by simpa using c38
                (try (have c38b1 : decide (t267 = t266) = true := by simpa using c38))
                (try (have c38b2 : (t267 == t266) = true := by simpa using c38))
                clear c38
                (first | rw [c38b0] | (simp only [i64_w, i32_w]; rw [c38b0]) | skip)
                replace H := Option.bind_eq_some_iff.mp H
                obtain ⟨t268, A420, H⟩ := H
                replace H : (terrierlaw13_RecordCodes.j2 kj17 t258 t261 t262 t263 t266 x9_17 (!t268) l0_0 l0_1 a0_2 a0_3 a0_4 a0_5) = some r := H
                have A42 := Aside0.mk A420
                clear A420
                have H' := Aside0.mk H
                clear H
                have hnb43 := NB257_243.out
                have hnc43 := NB243_257.out
                have hcz44_0 : wc.cell? ⟨gb257, 0, none⟩ = some (.slice Ao22 t247.length co22) := (blk_cell BK257.out 0).trans rfl
                have hcz44_1 : wc.cell? ⟨gb257, 1, none⟩ = some (.slice Ao25 t250.length co25) := (blk_cell BK257.out 1).trans rfl
                have hcz44_2 : wc.cell? ⟨gb257, 2, none⟩ = some (.int .i64 t253) := (blk_cell BK257.out 2).trans rfl
                have hcz44_3 : wc.cell? ⟨gb257, 3, none⟩ = some (.int .i64 t254) := (blk_cell BK257.out 3).trans rfl
                have hcz44_4 : wc.cell? ⟨gb257, 4, none⟩ = some (.int .i64 t255) := (blk_cell BK257.out 4).trans rfl
                have hcz44_5 : wc.cell? ⟨gb257, 5, none⟩ = some (.int .i64 t256) := (blk_cell BK257.out 5).trans rfl
                have hfz44_0 := blk_frozen BK257.out 0
                have hfz44_1 := blk_frozen BK257.out 1
                have hfz44_2 := blk_frozen BK257.out 2
                have hfz44_3 := blk_frozen BK257.out 3
                have hfz44_4 := blk_frozen BK257.out 4
                have hfz44_5 := blk_frozen BK257.out 5
                go_wp2_with (first | ((with_reducible refine gate_callee (f := 13) rfl ?_); refine goesL_ (some 44) rfl rfl Try.func13 (by kernel_rfl) rfl #[.agg #[.slice Ao22 t247.length co22, .slice Ao25 t250.length co25, .int .i64 t253, .int .i64 t254, .int .i64 t255, .int .i64 t256]] rfl (by (try simp only [List.map_toArray, List.map_cons, List.map_nil]); first | done | rfl | (simp only [List.length_drop, List.length_take]; rfl)) ?_; (with_reducible refine (record_Right.calls _ _ t247 _ _ t250 t253 t254 t255 t256 t267 _ ?side1 ?side2 ?side3 ?side4 A37.out).mono ?_); (case side1 => repeat (first | exact (Kd.R_reads' HO_258000.out).2.2 | (with_reducible refine Kd.C_alloc ?_ _) | (with_reducible refine Kd.C_drewN ?_ _) | (with_reducible refine Kd.C_drew ?_))); (case side2 => exact (Kd.R_reads' HO_258000.out).2.1); (case side3 => repeat (first | exact (Kd.R_reads' HO_258001.out).2.2 | (with_reducible refine Kd.C_alloc ?_ _) | (with_reducible refine Kd.C_drewN ?_ _) | (with_reducible refine Kd.C_drew ?_))); (case side4 => exact (Kd.R_reads' HO_258001.out).2.1); rintro e w45 ⟨rfl, hb⟩; refine ⟨_, rfl, ?_⟩; have n0_ := Aside0.mk (Kd.R_below (by (with_reducible repeat (first | apply Kd.R_alloc | apply Kd.R_drewN | apply Kd.R_drew)); exact HO_4.out) hb); have n1_ := Aside0.mk (Kd.R_below (by (with_reducible repeat (first | apply Kd.R_alloc | apply Kd.R_drewN | apply Kd.R_drew)); exact HO_6.out) hb); have n2_ := Aside0.mk (Kd.R_below (by (with_reducible repeat (first | apply Kd.R_alloc | apply Kd.R_drewN | apply Kd.R_drew)); exact HO_258000.out) hb); have n3_ := Aside0.mk (Kd.R_below (by (with_reducible repeat (first | apply Kd.R_alloc | apply Kd.R_drewN | apply Kd.R_drew)); exact HO_258001.out) hb); have n4_ := Aside0.mk (blk_below (g := gb243) (o := .cells #[.slice A0_0 l0_0.length c0_0, .slice A0_1 l0_1.length c0_1, .int .i64 a0_2, .int .i64 a0_3, .int .i64 a0_4, .int .i64 a0_5] 24 (0, 0)) (by (with_reducible repeat (first | refine blk_drewN ?_ _ | refine blk_drew ?_ | refine blk_alloc ?_ _)); exact BK243.out) hb); have n5_ := Aside0.mk (blk_below (g := gb257) (o := .cells #[.slice Ao22 t247.length co22, .slice Ao25 t250.length co25, .int .i64 t253, .int .i64 t254, .int .i64 t255, .int .i64 t256] 24 (0, 0)) (by (with_reducible repeat (first | refine blk_drewN ?_ _ | refine blk_drew ?_ | refine blk_alloc ?_ _)); exact BK257.out) hb); have n6_ := Aside0.mk (below_step (by repeat (first | (with_reducible first | exact HB.out | apply below_alloc | apply pw_below_drewN | apply below_drew1 | refine below_set ?_ GE243.out | refine below_set ?_ GE257.out) | exact HB.out | exact Below.refl _ _)) hb); clear HO_4; clear HO_6; clear HO_258000; clear HO_258001; clear BK243; clear BK257; clear HB; have HO_4 := n0_; have HO_6 := n1_; have HO_258000 := n2_; have HO_258001 := n3_; have BK243 := n4_; have BK257 := n5_; have HB := n6_; clear n0_ n1_ n2_ n3_ n4_ n5_ n6_; (try clear hb); (try clear hb2); (try clear hk); (try clear hi); have hcz46_0 : w45.cell? ⟨gb257, 0, none⟩ = some (.slice Ao22 t247.length co22) := (blk_cell BK257.out 0).trans rfl; have hcz46_1 : w45.cell? ⟨gb257, 1, none⟩ = some (.slice Ao25 t250.length co25) := (blk_cell BK257.out 1).trans rfl; have hcz46_2 : w45.cell? ⟨gb257, 2, none⟩ = some (.int .i64 t253) := (blk_cell BK257.out 2).trans rfl; have hcz46_3 : w45.cell? ⟨gb257, 3, none⟩ = some (.int .i64 t254) := (blk_cell BK257.out 3).trans rfl; have hcz46_4 : w45.cell? ⟨gb257, 4, none⟩ = some (.int .i64 t255) := (blk_cell BK257.out 4).trans rfl; have hcz46_5 : w45.cell? ⟨gb257, 5, none⟩ = some (.int .i64 t256) := (blk_cell BK257.out 5).trans rfl; have hfz46_0 := blk_frozen BK257.out 0; have hfz46_1 := blk_frozen BK257.out 1; have hfz46_2 := blk_frozen BK257.out 2; have hfz46_3 := blk_frozen BK257.out 3; have hfz46_4 := blk_frozen BK257.out 4; have hfz46_5 := blk_frozen BK257.out 5; have hcz47_0 : w45.cell? ⟨gb243, 0, none⟩ = some (.slice A0_0 l0_0.length c0_0) := (blk_cell BK243.out 0).trans rfl; have hcz47_1 : w45.cell? ⟨gb243, 1, none⟩ = some (.slice A0_1 l0_1.length c0_1) := (blk_cell BK243.out 1).trans rfl; have hcz47_2 : w45.cell? ⟨gb243, 2, none⟩ = some (.int .i64 a0_2) := (blk_cell BK243.out 2).trans rfl; have hcz47_3 : w45.cell? ⟨gb243, 3, none⟩ = some (.int .i64 a0_3) := (blk_cell BK243.out 3).trans rfl; have hcz47_4 : w45.cell? ⟨gb243, 4, none⟩ = some (.int .i64 a0_4) := (blk_cell BK243.out 4).trans rfl; have hcz47_5 : w45.cell? ⟨gb243, 5, none⟩ = some (.int .i64 a0_5) := (blk_cell BK243.out 5).trans rfl; have hfz47_0 := blk_frozen BK243.out 0; have hfz47_1 := blk_frozen BK243.out 1; have hfz47_2 := blk_frozen BK243.out 2; have hfz47_3 := blk_frozen BK243.out 3; have hfz47_4 := blk_frozen BK243.out 4; have hfz47_5 := blk_frozen BK243.out 5) | (go_at_call 14; (with_reducible refine (terrierref13_Same.calls _ _ t247 _ _ t250 t253 t254 t255 t256 _ _ l0_0 _ _ l0_1 a0_2 a0_3 a0_4 a0_5 t268 _ ?side1 ?side2 ?side3 ?side4 ?side5 ?side6 ?side7 ?side8 A42.out).mono ?_); (case side1 => repeat (first | exact (Kd.R_reads' HO_258000.out).2.2 | (with_reducible refine Kd.C_alloc ?_ _) | (with_reducible refine Kd.C_drewN ?_ _) | (with_reducible refine Kd.C_drew ?_))); (case side2 => exact (Kd.R_reads' HO_258000.out).2.1); (case side3 => repeat (first | exact (Kd.R_reads' HO_258001.out).2.2 | (with_reducible refine Kd.C_alloc ?_ _) | (with_reducible refine Kd.C_drewN ?_ _) | (with_reducible refine Kd.C_drew ?_))); (case side4 => exact (Kd.R_reads' HO_258001.out).2.1); (case side5 => repeat (first | exact (Kd.C_below HR0_0.out HB.out) | exact HR0_0.out | (with_reducible refine Kd.C_alloc ?_ _) | (with_reducible refine Kd.C_drewN ?_ _) | (with_reducible refine Kd.C_drew ?_))); (case side6 => exact HC0_0.out); (case side7 => repeat (first | exact (Kd.C_below HR0_1.out HB.out) | exact HR0_1.out | (with_reducible refine Kd.C_alloc ?_ _) | (with_reducible refine Kd.C_drewN ?_ _) | (with_reducible refine Kd.C_drew ?_))); (case side8 => exact HC0_1.out); rintro e w48 ⟨rfl, hb⟩; have n0_ := Aside0.mk (Kd.R_below (by (with_reducible repeat (first | apply Kd.R_alloc | apply Kd.R_drewN | apply Kd.R_drew)); exact HO_4.out) hb); have n1_ := Aside0.mk (Kd.R_below (by (with_reducible repeat (first | apply Kd.R_alloc | apply Kd.R_drewN | apply Kd.R_drew)); exact HO_6.out) hb); have n2_ := Aside0.mk (Kd.R_below (by (with_reducible repeat (first | apply Kd.R_alloc | apply Kd.R_drewN | apply Kd.R_drew)); exact HO_258000.out) hb); have n3_ := Aside0.mk (Kd.R_below (by (with_reducible repeat (first | apply Kd.R_alloc | apply Kd.R_drewN | apply Kd.R_drew)); exact HO_258001.out) hb); have n4_ := Aside0.mk (blk_below (g := gb243) (o := .cells #[.slice A0_0 l0_0.length c0_0, .slice A0_1 l0_1.length c0_1, .int .i64 a0_2, .int .i64 a0_3, .int .i64 a0_4, .int .i64 a0_5] 24 (0, 0)) (by (with_reducible repeat (first | refine blk_drewN ?_ _ | refine blk_drew ?_ | refine blk_alloc ?_ _)); exact BK243.out) hb); have n5_ := Aside0.mk (blk_below (g := gb257) (o := .cells #[.slice Ao22 t247.length co22, .slice Ao25 t250.length co25, .int .i64 t253, .int .i64 t254, .int .i64 t255, .int .i64 t256] 24 (0, 0)) (by (with_reducible repeat (first | refine blk_drewN ?_ _ | refine blk_drew ?_ | refine blk_alloc ?_ _)); exact BK257.out) hb); have n6_ := Aside0.mk (below_step (by repeat (first | (with_reducible first | exact HB.out | apply below_alloc | apply pw_below_drewN | apply below_drew1 | refine below_set ?_ GE243.out | refine below_set ?_ GE257.out) | exact HB.out | exact Below.refl _ _)) hb); clear HO_4; clear HO_6; clear HO_258000; clear HO_258001; clear BK243; clear BK257; clear HB; have HO_4 := n0_; have HO_6 := n1_; have HO_258000 := n2_; have HO_258001 := n3_; have BK243 := n4_; have BK257 := n5_; have HB := n6_; clear n0_ n1_ n2_ n3_ n4_ n5_ n6_; (try clear hb); (try clear hb2); (try clear hk); (try clear hi)))
                go_meet
                case rel => exact ⟨_, (!t268), (by first | rfl | (simp; done) | (simp [*]; done)), H', ⟨by have := HJ1.out; have := HJ17.out; first | omega | exact Nat.le_refl _⟩, ⟨by (with_reducible repeat (first | apply Kd.R_alloc | apply Kd.R_drewN | apply Kd.R_drew)); exact HO_4.out⟩, ⟨by (with_reducible repeat (first | apply Kd.R_alloc | apply Kd.R_drewN | apply Kd.R_drew)); exact HO_6.out⟩, ⟨by (with_reducible repeat (first | apply Kd.R_alloc | apply Kd.R_drewN | apply Kd.R_drew)); exact HO_258000.out⟩, ⟨by (with_reducible repeat (first | apply Kd.R_alloc | apply Kd.R_drewN | apply Kd.R_drew)); exact HO_258001.out⟩, ⟨by (with_reducible repeat (first | refine blk_drewN ?_ _ | refine blk_drew ?_ | refine blk_alloc ?_ _)); exact BK243.out⟩, ⟨by (with_reducible repeat (first | refine blk_drewN ?_ _ | refine blk_drew ?_ | refine blk_alloc ?_ _)); exact BK257.out⟩, ⟨by repeat (first | (with_reducible first | exact HB.out | apply below_alloc | apply pw_below_drewN | apply below_drew1 | refine below_set ?_ GE243.out | refine below_set ?_ GE257.out) | exact HB.out | exact Below.refl _ _)⟩⟩
            case rest =>
              clear HC36
              try clear c1
              try clear c2
              try clear p2
              try clear c3
              try clear c4
              try clear c5
              try clear c7
              try clear c9
              try clear c10
              try clear c11
              try clear c12
              try clear c13
              try clear c23
              try clear c31
              try clear c31b0
              try clear c31b1
              try clear c32
              try clear c34
              try clear c38
              try clear c38b0
              try clear c38b1
              try clear c38b2
              try clear c39
              try clear c43
              try clear hcz19_0
              try clear hcz19_1
              try clear hcz19_2
              try clear hcz19_3
              try clear hcz19_4
              try clear hcz19_5
              try clear hcz24_0
              try clear hcz24_1
              try clear hcz24_2
              try clear hcz24_3
              try clear hcz24_4
              try clear hcz24_5
              try clear hcz27_0
              try clear hcz27_1
              try clear hcz27_2
              try clear hcz27_3
              try clear hcz27_4
              try clear hcz27_5
              try clear hcz29_0
              try clear hcz29_1
              try clear hcz29_2
              try clear hcz29_3
              try clear hcz29_4
              try clear hcz29_5
              try clear hcz33_0
              try clear hcz33_1
              try clear hcz33_2
              try clear hcz33_3
              try clear hcz33_4
              try clear hcz33_5
              try clear hcz35_0
              try clear hcz35_1
              try clear hcz35_2
              try clear hcz35_3
              try clear hcz35_4
              try clear hcz35_5
              try clear hcz40_0
              try clear hcz40_1
              try clear hcz40_2
              try clear hcz40_3
              try clear hcz40_4
              try clear hcz40_5
              try clear hcz44_0
              try clear hcz44_1
              try clear hcz44_2
              try clear hcz44_3
              try clear hcz44_4
              try clear hcz44_5
              try clear hcz46_0
              try clear hcz46_1
              try clear hcz46_2
              try clear hcz46_3
              try clear hcz46_4
              try clear hcz46_5
              try clear hcz47_0
              try clear hcz47_1
              try clear hcz47_2
              try clear hcz47_3
              try clear hcz47_4
              try clear hcz47_5
              try clear hcz8_0
              try clear hcz8_1
              try clear hcz8_2
              try clear hcz8_3
              try clear hcz8_4
              try clear hcz8_5
              try clear hfz19_0
              try clear hfz19_1
              try clear hfz19_2
              try clear hfz19_3
              try clear hfz19_4
              try clear hfz19_5
              try clear hfz24_0
              try clear hfz24_1
              try clear hfz24_2
              try clear hfz24_3
              try clear hfz24_4
              try clear hfz24_5
              try clear hfz27_0
              try clear hfz27_1
              try clear hfz27_2
              try clear hfz27_3
              try clear hfz27_4
              try clear hfz27_5
              try clear hfz29_0
              try clear hfz29_1
              try clear hfz29_2
              try clear hfz29_3
              try clear hfz29_4
              try clear hfz29_5
              try clear hfz33_0
              try clear hfz33_1
              try clear hfz33_2
              try clear hfz33_3
              try clear hfz33_4
              try clear hfz33_5
              try clear hfz35_0
              try clear hfz35_1
              try clear hfz35_2
              try clear hfz35_3
              try clear hfz35_4
              try clear hfz35_5
              try clear hfz40_0
              try clear hfz40_1
              try clear hfz40_2
              try clear hfz40_3
              try clear hfz40_4
              try clear hfz40_5
              try clear hfz44_0
              try clear hfz44_1
              try clear hfz44_2
              try clear hfz44_3
              try clear hfz44_4
              try clear hfz44_5
              try clear hfz46_0
              try clear hfz46_1
              try clear hfz46_2
              try clear hfz46_3
              try clear hfz46_4
              try clear hfz46_5
              try clear hfz47_0
              try clear hfz47_1
              try clear hfz47_2
              try clear hfz47_3
              try clear hfz47_4
              try clear hfz47_5
              try clear hfz8_0
              try clear hfz8_1
              try clear hfz8_2
              try clear hfz8_3
              try clear hfz8_4
              try clear hfz8_5
              try clear p2
              obtain ⟨kq, x52_35, rfl, HA, HJ35, HO_4, HO_6, HO_258000, HO_258001, BK243, BK257, HB⟩ := hcut
              cases kq with
              | zero => exact absurd HA.out (by simp [terrierlaw13_RecordCodes.j2])
              | succ kj35 =>
                have H := HA.out
                clear HA
                simp only [terrierlaw13_RecordCodes.j2] at H
                by_cases c49 : x52_35 = true
                · subst c49
                  have H1 : (some false) = some r := by rw [if_pos rfl] at H; exact H
                  clear H
                  have H := H1
                  clear H1
                  obtain rfl := Option.some.inj H
                  go_wp2
                  go_ret
                  exact ⟨by first | rfl | (simp [errW_none, errW_some] <;> rfl) | (simp [*, errW_none, errW_some] <;> rfl), by repeat (first | (with_reducible first | exact HB.out | apply below_alloc | apply pw_below_drewN | apply below_drew1 | refine below_set ?_ GE243.out | refine below_set ?_ GE257.out) | exact HB.out | exact Below.refl _ _)⟩
                · replace c49 := Bool.eq_false_iff.mpr c49
                  subst c49
                  have H1 : (if t266 = true then (if t261 = 0 then ((terrierref13_Encode.f kj35 l0_0 l0_1 a0_2 a0_3 a0_4 a0_5).bind fun t269 => ((terrierref01_Same.f t258 t269).bind fun t272 => (if t272 = true then (if x9_17 = true then (if t263 = 0 then ((terrierref13_Tomb.f kj35 l0_0).bind fun t273 => ((terrierref01_Same.f t262 t273).bind fun t276 => (if t276 = true then (some true) else (some false)))) else (some false)) else (if t263 = 4 then (some ((t262.length : Int) == 0)) else (some false))) else (some false)))) else (some false)) else (if t261 = 4 then (if (t258.length : Int) = 0 then (if x9_17 = true then (if t263 = 0 then ((terrierref13_Tomb.f kj35 l0_0).bind fun t277 => ((terrierref01_Same.f t262 t277).bind fun t280 => (if t280 = true then (some true) else (some false)))) else (some false)) else (if t263 = 4 then (some ((t262.length : Int) == 0)) else (some false))) else (some false)) else (some false))) = some r := by rw [if_neg (show ¬ (false = true) by decide)] at H; exact H
                  clear H
                  have H := H1
                  clear H1
                  by_cases c50 : t266 = true
                  · subst c50
                    have H1 : (if t261 = 0 then ((terrierref13_Encode.f kj35 l0_0 l0_1 a0_2 a0_3 a0_4 a0_5).bind fun t269 => ((terrierref01_Same.f t258 t269).bind fun t272 => (if t272 = true then (if x9_17 = true then (if t263 = 0 then ((terrierref13_Tomb.f kj35 l0_0).bind fun t273 => ((terrierref01_Same.f t262 t273).bind fun t276 => (if t276 = true then (some true) else (some false)))) else (some false)) else (if t263 = 4 then (some ((t262.length : Int) == 0)) else (some false))) else (some false)))) else (some false)) = some r := by rw [if_pos rfl] at H; exact H
                    clear H
                    have H := H1
                    clear H1
                    by_cases c51 : t261 = 0
                    · rw [if_pos c51] at H
                      have c51b0 : (t261 == 0) = true := beq_iff_eq.mpr c51
                      have c51b1 : (t261 != 0) = false := bne_eq_false_iff_eq.mpr c51
                      clear c51
                      replace H := Option.bind_eq_some_iff.mp H
                      obtain ⟨t269, A520, H⟩ := H
                      replace H : ((terrierref01_Same.f t258 t269).bind fun t272 => (if t272 = true then (if x9_17 = true then (if t263 = 0 then ((terrierref13_Tomb.f kj35 l0_0).bind fun t273 => ((terrierref01_Same.f t262 t273).bind fun t276 => (if t276 = true then (some true) else (some false)))) else (some false)) else (if t263 = 4 then (some ((t262.length : Int) == 0)) else (some false))) else (some false))) = some r := H
                      have A52 := Aside0.mk A520
                      clear A520
                      replace H := Option.bind_eq_some_iff.mp H
                      obtain ⟨t272, A530, H⟩ := H
                      replace H : (if t272 = true then (if x9_17 = true then (if t263 = 0 then ((terrierref13_Tomb.f kj35 l0_0).bind fun t273 => ((terrierref01_Same.f t262 t273).bind fun t276 => (if t276 = true then (some true) else (some false)))) else (some false)) else (if t263 = 4 then (some ((t262.length : Int) == 0)) else (some false))) else (some false)) = some r := H
                      have A53 := Aside0.mk A530
                      clear A530
                      by_cases c54 : t272 = true
                      · subst c54
                        have H1 : (if x9_17 = true then (if t263 = 0 then ((terrierref13_Tomb.f kj35 l0_0).bind fun t273 => ((terrierref01_Same.f t262 t273).bind fun t276 => (if t276 = true then (some true) else (some false)))) else (some false)) else (if t263 = 4 then (some ((t262.length : Int) == 0)) else (some false))) = some r := by rw [if_pos rfl] at H; exact H
                        clear H
                        have H := H1
                        clear H1
                        by_cases c55 : x9_17 = true
                        · subst c55
                          have H1 : (if t263 = 0 then ((terrierref13_Tomb.f kj35 l0_0).bind fun t273 => ((terrierref01_Same.f t262 t273).bind fun t276 => (if t276 = true then (some true) else (some false)))) else (some false)) = some r := by rw [if_pos rfl] at H; exact H
                          clear H
                          have H := H1
                          clear H1
                          by_cases c56 : t263 = 0
                          · rw [if_pos c56] at H
                            have c56b0 : (t263 == 0) = true := beq_iff_eq.mpr c56
                            have c56b1 : (t263 != 0) = false := bne_eq_false_iff_eq.mpr c56
                            clear c56
                            replace H := Option.bind_eq_some_iff.mp H
                            obtain ⟨t273, A570, H⟩ := H
                            replace H : ((terrierref01_Same.f t262 t273).bind fun t276 => (if t276 = true then (some true) else (some false))) = some r := H
                            have A57 := Aside0.mk A570
                            clear A570
                            replace H := Option.bind_eq_some_iff.mp H
                            obtain ⟨t276, A580, H⟩ := H
                            replace H : (if t276 = true then (some true) else (some false)) = some r := H
                            have A58 := Aside0.mk A580
                            clear A580
                            by_cases c59 : t276 = true
                            · subst c59
                              have H1 : (some true) = some r := by rw [if_pos rfl] at H; exact H
                              clear H
                              have H := H1
                              clear H1
                              obtain rfl := Option.some.inj H
                              have hnb60 := NB243_257.out
                              have hnc60 := NB257_243.out
                              have hcz61_0 : wc.cell? ⟨gb243, 0, none⟩ = some (.slice A0_0 l0_0.length c0_0) := (blk_cell BK243.out 0).trans rfl
                              have hcz61_1 : wc.cell? ⟨gb243, 1, none⟩ = some (.slice A0_1 l0_1.length c0_1) := (blk_cell BK243.out 1).trans rfl
                              have hcz61_2 : wc.cell? ⟨gb243, 2, none⟩ = some (.int .i64 a0_2) := (blk_cell BK243.out 2).trans rfl
                              have hcz61_3 : wc.cell? ⟨gb243, 3, none⟩ = some (.int .i64 a0_3) := (blk_cell BK243.out 3).trans rfl
                              have hcz61_4 : wc.cell? ⟨gb243, 4, none⟩ = some (.int .i64 a0_4) := (blk_cell BK243.out 4).trans rfl
                              have hcz61_5 : wc.cell? ⟨gb243, 5, none⟩ = some (.int .i64 a0_5) := (blk_cell BK243.out 5).trans rfl
                              have hfz61_0 := blk_frozen BK243.out 0
                              have hfz61_1 := blk_frozen BK243.out 1
                              have hfz61_2 := blk_frozen BK243.out 2
                              have hfz61_3 := blk_frozen BK243.out 3
                              have hfz61_4 := blk_frozen BK243.out 4
                              have hfz61_5 := blk_frozen BK243.out 5
                              go_wp2_with (first | (go_at_call 16; (with_reducible refine (terrierref13_Encode.calls kj35 _ _ l0_0 _ _ l0_1 a0_2 a0_3 a0_4 a0_5 t269 _ ?side1 ?side2 ?side3 ?side4 A52.out).mono ?_); (case side1 => repeat (first | exact (Kd.C_below HR0_0.out HB.out) | exact HR0_0.out | (with_reducible refine Kd.C_alloc ?_ _) | (with_reducible refine Kd.C_drewN ?_ _) | (with_reducible refine Kd.C_drew ?_))); (case side2 => exact HC0_0.out); (case side3 => repeat (first | exact (Kd.C_below HR0_1.out HB.out) | exact HR0_1.out | (with_reducible refine Kd.C_alloc ?_ _) | (with_reducible refine Kd.C_drewN ?_ _) | (with_reducible refine Kd.C_drew ?_))); (case side4 => exact HC0_1.out); rintro e w62 ⟨v270, rfl, ho0, hb⟩; have n0_ := Aside0.mk (Kd.R_elder' (by (with_reducible repeat (first | apply Kd.R_alloc | apply Kd.R_drewN | apply Kd.R_drew)); exact HO_4.out) (Kd.R_base ho0) hb); have n1_ := Aside0.mk (Kd.R_elder' (by (with_reducible repeat (first | apply Kd.R_alloc | apply Kd.R_drewN | apply Kd.R_drew)); exact HO_6.out) (Kd.R_base ho0) hb); have n2_ := Aside0.mk (Kd.R_elder' (by (with_reducible repeat (first | apply Kd.R_alloc | apply Kd.R_drewN | apply Kd.R_drew)); exact HO_258000.out) (Kd.R_base ho0) hb); have n3_ := Aside0.mk (Kd.R_elder' (by (with_reducible repeat (first | apply Kd.R_alloc | apply Kd.R_drewN | apply Kd.R_drew)); exact HO_258001.out) (Kd.R_base ho0) hb); have n4_ := Aside0.mk (Kd.R_lower (Kd.R_new' (Kd.R_new' (Kd.R_new' (Kd.R_new' ho0 (Kd.R_lt (by (with_reducible repeat (first | apply Kd.R_alloc | apply Kd.R_drewN | apply Kd.R_drew)); exact HO_4.out))) (Kd.R_lt (by (with_reducible repeat (first | apply Kd.R_alloc | apply Kd.R_drewN | apply Kd.R_drew)); exact HO_6.out))) (Kd.R_lt (by (with_reducible repeat (first | apply Kd.R_alloc | apply Kd.R_drewN | apply Kd.R_drew)); exact HO_258000.out))) (Kd.R_lt (by (with_reducible repeat (first | apply Kd.R_alloc | apply Kd.R_drewN | apply Kd.R_drew)); exact HO_258001.out))) (below_size (by repeat (first | (with_reducible first | exact HB.out | apply below_alloc | apply pw_below_drewN | apply below_drew1 | refine below_set ?_ GE243.out | refine below_set ?_ GE257.out) | exact HB.out | exact Below.refl _ _)))); have n5_ := Aside0.mk (blk_below (g := gb243) (o := .cells #[.slice A0_0 l0_0.length c0_0, .slice A0_1 l0_1.length c0_1, .int .i64 a0_2, .int .i64 a0_3, .int .i64 a0_4, .int .i64 a0_5] 24 (0, 0)) (by (with_reducible repeat (first | refine blk_drewN ?_ _ | refine blk_drew ?_ | refine blk_alloc ?_ _)); exact BK243.out) hb); have n6_ := Aside0.mk (blk_below (g := gb257) (o := .cells #[.slice Ao22 t247.length co22, .slice Ao25 t250.length co25, .int .i64 t253, .int .i64 t254, .int .i64 t255, .int .i64 t256] 24 (0, 0)) (by (with_reducible repeat (first | refine blk_drewN ?_ _ | refine blk_drew ?_ | refine blk_alloc ?_ _)); exact BK257.out) hb); have n7_ := Aside0.mk (below_step (by repeat (first | (with_reducible first | exact HB.out | apply below_alloc | apply pw_below_drewN | apply below_drew1 | refine below_set ?_ GE243.out | refine below_set ?_ GE257.out) | exact HB.out | exact Below.refl _ _)) hb); clear HO_4; clear HO_6; clear HO_258000; clear HO_258001; clear BK243; clear BK257; clear HB; have HO_4 := n0_; have HO_6 := n1_; have HO_258000 := n2_; have HO_258001 := n3_; have HO271 := n4_; have BK243 := n5_; have BK257 := n6_; have HB := n7_; clear n0_ n1_ n2_ n3_ n4_ n5_ n6_ n7_; (try clear hb); (try clear hb2); (try clear hk); (try clear hi); (try clear ho0); obtain ⟨Ao63, co63, eo63⟩ := Kd.R_slice HO_4.out; subst eo63; obtain ⟨Ao64, co64, eo64⟩ := Kd.R_slice HO271.out; subst eo64) | (go_at_call 15; (with_reducible refine (terrierref01_Same.calls _ _ t258 _ _ t269 true _ ?side1 ?side2 ?side3 ?side4 A53.out).mono ?_); (case side1 => repeat (first | exact (Kd.R_reads' HO_4.out).2.2 | (with_reducible refine Kd.C_alloc ?_ _) | (with_reducible refine Kd.C_drewN ?_ _) | (with_reducible refine Kd.C_drew ?_))); (case side2 => exact (Kd.R_reads' HO_4.out).2.1); (case side3 => repeat (first | exact (Kd.R_reads' HO271.out).2.2 | (with_reducible refine Kd.C_alloc ?_ _) | (with_reducible refine Kd.C_drewN ?_ _) | (with_reducible refine Kd.C_drew ?_))); (case side4 => exact (Kd.R_reads' HO271.out).2.1); rintro e w' ⟨rfl, ⟨nd, rfl⟩⟩; have hcz65_0 : w62.cell? ⟨gb243, 0, none⟩ = some (.slice A0_0 l0_0.length c0_0) := (blk_cell BK243.out 0).trans rfl; have hcz65_1 : w62.cell? ⟨gb243, 1, none⟩ = some (.slice A0_1 l0_1.length c0_1) := (blk_cell BK243.out 1).trans rfl; have hcz65_2 : w62.cell? ⟨gb243, 2, none⟩ = some (.int .i64 a0_2) := (blk_cell BK243.out 2).trans rfl; have hcz65_3 : w62.cell? ⟨gb243, 3, none⟩ = some (.int .i64 a0_3) := (blk_cell BK243.out 3).trans rfl; have hcz65_4 : w62.cell? ⟨gb243, 4, none⟩ = some (.int .i64 a0_4) := (blk_cell BK243.out 4).trans rfl; have hcz65_5 : w62.cell? ⟨gb243, 5, none⟩ = some (.int .i64 a0_5) := (blk_cell BK243.out 5).trans rfl; have hfz65_0 := blk_frozen BK243.out 0; have hfz65_1 := blk_frozen BK243.out 1; have hfz65_2 := blk_frozen BK243.out 2; have hfz65_3 := blk_frozen BK243.out 3; have hfz65_4 := blk_frozen BK243.out 4; have hfz65_5 := blk_frozen BK243.out 5) | (go_at_call 17; (with_reducible refine (terrierref13_Tomb.calls kj35 _ _ l0_0 t273 _ ?side1 ?side2 A57.out).mono ?_); (case side1 => repeat (first | exact (Kd.C_below HR0_0.out (by repeat (first | (with_reducible first | exact HB.out | apply below_alloc | apply pw_below_drewN | apply below_drew1 | refine below_set ?_ GE243.out | refine below_set ?_ GE257.out) | exact HB.out | exact Below.refl _ _))) | exact HR0_0.out | (with_reducible refine Kd.C_alloc ?_ _) | (with_reducible refine Kd.C_drewN ?_ _) | (with_reducible refine Kd.C_drew ?_))); (case side2 => exact HC0_0.out); rintro e w66 ⟨v274, rfl, ho0, hb⟩; have n0_ := Aside0.mk (Kd.R_elder' (by (with_reducible repeat (first | apply Kd.R_alloc | apply Kd.R_drewN | apply Kd.R_drew)); exact HO_4.out) (Kd.R_base ho0) hb); have n1_ := Aside0.mk (Kd.R_elder' (by (with_reducible repeat (first | apply Kd.R_alloc | apply Kd.R_drewN | apply Kd.R_drew)); exact HO_6.out) (Kd.R_base ho0) hb); have n2_ := Aside0.mk (Kd.R_elder' (by (with_reducible repeat (first | apply Kd.R_alloc | apply Kd.R_drewN | apply Kd.R_drew)); exact HO_258000.out) (Kd.R_base ho0) hb); have n3_ := Aside0.mk (Kd.R_elder' (by (with_reducible repeat (first | apply Kd.R_alloc | apply Kd.R_drewN | apply Kd.R_drew)); exact HO_258001.out) (Kd.R_base ho0) hb); have n4_ := Aside0.mk (Kd.R_elder' (by (with_reducible repeat (first | apply Kd.R_alloc | apply Kd.R_drewN | apply Kd.R_drew)); exact HO271.out) (Kd.R_base ho0) hb); have n5_ := Aside0.mk (Kd.R_lower (Kd.R_new' (Kd.R_new' (Kd.R_new' (Kd.R_new' (Kd.R_new' ho0 (Kd.R_lt (by (with_reducible repeat (first | apply Kd.R_alloc | apply Kd.R_drewN | apply Kd.R_drew)); exact HO_4.out))) (Kd.R_lt (by (with_reducible repeat (first | apply Kd.R_alloc | apply Kd.R_drewN | apply Kd.R_drew)); exact HO_6.out))) (Kd.R_lt (by (with_reducible repeat (first | apply Kd.R_alloc | apply Kd.R_drewN | apply Kd.R_drew)); exact HO_258000.out))) (Kd.R_lt (by (with_reducible repeat (first | apply Kd.R_alloc | apply Kd.R_drewN | apply Kd.R_drew)); exact HO_258001.out))) (Kd.R_lt (by (with_reducible repeat (first | apply Kd.R_alloc | apply Kd.R_drewN | apply Kd.R_drew)); exact HO271.out))) (below_size (by repeat (first | (with_reducible first | exact HB.out | apply below_alloc | apply pw_below_drewN | apply below_drew1 | refine below_set ?_ GE243.out | refine below_set ?_ GE257.out) | exact HB.out | exact Below.refl _ _)))); have n6_ := Aside0.mk (blk_below (g := gb243) (o := .cells #[.slice A0_0 l0_0.length c0_0, .slice A0_1 l0_1.length c0_1, .int .i64 a0_2, .int .i64 a0_3, .int .i64 a0_4, .int .i64 a0_5] 24 (0, 0)) (by (with_reducible repeat (first | refine blk_drewN ?_ _ | refine blk_drew ?_ | refine blk_alloc ?_ _)); exact BK243.out) hb); have n7_ := Aside0.mk (blk_below (g := gb257) (o := .cells #[.slice Ao22 t247.length co22, .slice Ao25 t250.length co25, .int .i64 t253, .int .i64 t254, .int .i64 t255, .int .i64 t256] 24 (0, 0)) (by (with_reducible repeat (first | refine blk_drewN ?_ _ | refine blk_drew ?_ | refine blk_alloc ?_ _)); exact BK257.out) hb); have n8_ := Aside0.mk (below_step (by repeat (first | (with_reducible first | exact HB.out | apply below_alloc | apply pw_below_drewN | apply below_drew1 | refine below_set ?_ GE243.out | refine below_set ?_ GE257.out) | exact HB.out | exact Below.refl _ _)) hb); clear HO_4; clear HO_6; clear HO_258000; clear HO_258001; clear HO271; clear BK243; clear BK257; clear HB; have HO_4 := n0_; have HO_6 := n1_; have HO_258000 := n2_; have HO_258001 := n3_; have HO271 := n4_; have HO275 := n5_; have BK243 := n6_; have BK257 := n7_; have HB := n8_; clear n0_ n1_ n2_ n3_ n4_ n5_ n6_ n7_ n8_; (try clear hb); (try clear hb2); (try clear hk); (try clear hi); (try clear ho0); obtain ⟨Ao67, co67, eo67⟩ := Kd.R_slice HO_6.out; subst eo67; obtain ⟨Ao68, co68, eo68⟩ := Kd.R_slice HO275.out; subst eo68) | (go_at_call 15; (with_reducible refine (terrierref01_Same.calls _ _ t262 _ _ t273 true _ ?side1 ?side2 ?side3 ?side4 A58.out).mono ?_); (case side1 => repeat (first | exact (Kd.R_reads' HO_6.out).2.2 | (with_reducible refine Kd.C_alloc ?_ _) | (with_reducible refine Kd.C_drewN ?_ _) | (with_reducible refine Kd.C_drew ?_))); (case side2 => exact (Kd.R_reads' HO_6.out).2.1); (case side3 => repeat (first | exact (Kd.R_reads' HO275.out).2.2 | (with_reducible refine Kd.C_alloc ?_ _) | (with_reducible refine Kd.C_drewN ?_ _) | (with_reducible refine Kd.C_drew ?_))); (case side4 => exact (Kd.R_reads' HO275.out).2.1); rintro e w' ⟨rfl, ⟨nd, rfl⟩⟩))
                              go_ret
                              exact ⟨by first | rfl | (simp [errW_none, errW_some] <;> rfl) | (simp [*, errW_none, errW_some] <;> rfl), by repeat (first | (with_reducible first | exact HB.out | apply below_alloc | apply pw_below_drewN | apply below_drew1 | refine below_set ?_ GE243.out | refine below_set ?_ GE257.out) | exact HB.out | exact Below.refl _ _)⟩
                            · replace c59 := Bool.eq_false_iff.mpr c59
                              subst c59
                              have H1 : (some false) = some r := by rw [if_neg (show ¬ (false = true) by decide)] at H; exact H
                              clear H
                              have H := H1
                              clear H1
                              obtain rfl := Option.some.inj H
                              have hnb69 := NB243_257.out
                              have hnc69 := NB257_243.out
                              have hcz70_0 : wc.cell? ⟨gb243, 0, none⟩ = some (.slice A0_0 l0_0.length c0_0) := (blk_cell BK243.out 0).trans rfl
                              have hcz70_1 : wc.cell? ⟨gb243, 1, none⟩ = some (.slice A0_1 l0_1.length c0_1) := (blk_cell BK243.out 1).trans rfl
                              have hcz70_2 : wc.cell? ⟨gb243, 2, none⟩ = some (.int .i64 a0_2) := (blk_cell BK243.out 2).trans rfl
                              have hcz70_3 : wc.cell? ⟨gb243, 3, none⟩ = some (.int .i64 a0_3) := (blk_cell BK243.out 3).trans rfl
                              have hcz70_4 : wc.cell? ⟨gb243, 4, none⟩ = some (.int .i64 a0_4) := (blk_cell BK243.out 4).trans rfl
                              have hcz70_5 : wc.cell? ⟨gb243, 5, none⟩ = some (.int .i64 a0_5) := (blk_cell BK243.out 5).trans rfl
                              have hfz70_0 := blk_frozen BK243.out 0
                              have hfz70_1 := blk_frozen BK243.out 1
                              have hfz70_2 := blk_frozen BK243.out 2
                              have hfz70_3 := blk_frozen BK243.out 3
                              have hfz70_4 := blk_frozen BK243.out 4
                              have hfz70_5 := blk_frozen BK243.out 5
                              go_wp2_with (first | (go_at_call 16; (with_reducible refine (terrierref13_Encode.calls kj35 _ _ l0_0 _ _ l0_1 a0_2 a0_3 a0_4 a0_5 t269 _ ?side1 ?side2 ?side3 ?side4 A52.out).mono ?_); (case side1 => repeat (first | exact (Kd.C_below HR0_0.out HB.out) | exact HR0_0.out | (with_reducible refine Kd.C_alloc ?_ _) | (with_reducible refine Kd.C_drewN ?_ _) | (with_reducible refine Kd.C_drew ?_))); (case side2 => exact HC0_0.out); (case side3 => repeat (first | exact (Kd.C_below HR0_1.out HB.out) | exact HR0_1.out | (with_reducible refine Kd.C_alloc ?_ _) | (with_reducible refine Kd.C_drewN ?_ _) | (with_reducible refine Kd.C_drew ?_))); (case side4 => exact HC0_1.out); rintro e w71 ⟨v270, rfl, ho0, hb⟩; have n0_ := Aside0.mk (Kd.R_elder' (by (with_reducible repeat (first | apply Kd.R_alloc | apply Kd.R_drewN | apply Kd.R_drew)); exact HO_4.out) (Kd.R_base ho0) hb); have n1_ := Aside0.mk (Kd.R_elder' (by (with_reducible repeat (first | apply Kd.R_alloc | apply Kd.R_drewN | apply Kd.R_drew)); exact HO_6.out) (Kd.R_base ho0) hb); have n2_ := Aside0.mk (Kd.R_elder' (by (with_reducible repeat (first | apply Kd.R_alloc | apply Kd.R_drewN | apply Kd.R_drew)); exact HO_258000.out) (Kd.R_base ho0) hb); have n3_ := Aside0.mk (Kd.R_elder' (by (with_reducible repeat (first | apply Kd.R_alloc | apply Kd.R_drewN | apply Kd.R_drew)); exact HO_258001.out) (Kd.R_base ho0) hb); have n4_ := Aside0.mk (Kd.R_lower (Kd.R_new' (Kd.R_new' (Kd.R_new' (Kd.R_new' ho0 (Kd.R_lt (by (with_reducible repeat (first | apply Kd.R_alloc | apply Kd.R_drewN | apply Kd.R_drew)); exact HO_4.out))) (Kd.R_lt (by (with_reducible repeat (first | apply Kd.R_alloc | apply Kd.R_drewN | apply Kd.R_drew)); exact HO_6.out))) (Kd.R_lt (by (with_reducible repeat (first | apply Kd.R_alloc | apply Kd.R_drewN | apply Kd.R_drew)); exact HO_258000.out))) (Kd.R_lt (by (with_reducible repeat (first | apply Kd.R_alloc | apply Kd.R_drewN | apply Kd.R_drew)); exact HO_258001.out))) (below_size (by repeat (first | (with_reducible first | exact HB.out | apply below_alloc | apply pw_below_drewN | apply below_drew1 | refine below_set ?_ GE243.out | refine below_set ?_ GE257.out) | exact HB.out | exact Below.refl _ _)))); have n5_ := Aside0.mk (blk_below (g := gb243) (o := .cells #[.slice A0_0 l0_0.length c0_0, .slice A0_1 l0_1.length c0_1, .int .i64 a0_2, .int .i64 a0_3, .int .i64 a0_4, .int .i64 a0_5] 24 (0, 0)) (by (with_reducible repeat (first | refine blk_drewN ?_ _ | refine blk_drew ?_ | refine blk_alloc ?_ _)); exact BK243.out) hb); have n6_ := Aside0.mk (blk_below (g := gb257) (o := .cells #[.slice Ao22 t247.length co22, .slice Ao25 t250.length co25, .int .i64 t253, .int .i64 t254, .int .i64 t255, .int .i64 t256] 24 (0, 0)) (by (with_reducible repeat (first | refine blk_drewN ?_ _ | refine blk_drew ?_ | refine blk_alloc ?_ _)); exact BK257.out) hb); have n7_ := Aside0.mk (below_step (by repeat (first | (with_reducible first | exact HB.out | apply below_alloc | apply pw_below_drewN | apply below_drew1 | refine below_set ?_ GE243.out | refine below_set ?_ GE257.out) | exact HB.out | exact Below.refl _ _)) hb); clear HO_4; clear HO_6; clear HO_258000; clear HO_258001; clear BK243; clear BK257; clear HB; have HO_4 := n0_; have HO_6 := n1_; have HO_258000 := n2_; have HO_258001 := n3_; have HO271 := n4_; have BK243 := n5_; have BK257 := n6_; have HB := n7_; clear n0_ n1_ n2_ n3_ n4_ n5_ n6_ n7_; (try clear hb); (try clear hb2); (try clear hk); (try clear hi); (try clear ho0); obtain ⟨Ao72, co72, eo72⟩ := Kd.R_slice HO_4.out; subst eo72; obtain ⟨Ao73, co73, eo73⟩ := Kd.R_slice HO271.out; subst eo73) | (go_at_call 15; (with_reducible refine (terrierref01_Same.calls _ _ t258 _ _ t269 true _ ?side1 ?side2 ?side3 ?side4 A53.out).mono ?_); (case side1 => repeat (first | exact (Kd.R_reads' HO_4.out).2.2 | (with_reducible refine Kd.C_alloc ?_ _) | (with_reducible refine Kd.C_drewN ?_ _) | (with_reducible refine Kd.C_drew ?_))); (case side2 => exact (Kd.R_reads' HO_4.out).2.1); (case side3 => repeat (first | exact (Kd.R_reads' HO271.out).2.2 | (with_reducible refine Kd.C_alloc ?_ _) | (with_reducible refine Kd.C_drewN ?_ _) | (with_reducible refine Kd.C_drew ?_))); (case side4 => exact (Kd.R_reads' HO271.out).2.1); rintro e w' ⟨rfl, ⟨nd, rfl⟩⟩; have hcz74_0 : w71.cell? ⟨gb243, 0, none⟩ = some (.slice A0_0 l0_0.length c0_0) := (blk_cell BK243.out 0).trans rfl; have hcz74_1 : w71.cell? ⟨gb243, 1, none⟩ = some (.slice A0_1 l0_1.length c0_1) := (blk_cell BK243.out 1).trans rfl; have hcz74_2 : w71.cell? ⟨gb243, 2, none⟩ = some (.int .i64 a0_2) := (blk_cell BK243.out 2).trans rfl; have hcz74_3 : w71.cell? ⟨gb243, 3, none⟩ = some (.int .i64 a0_3) := (blk_cell BK243.out 3).trans rfl; have hcz74_4 : w71.cell? ⟨gb243, 4, none⟩ = some (.int .i64 a0_4) := (blk_cell BK243.out 4).trans rfl; have hcz74_5 : w71.cell? ⟨gb243, 5, none⟩ = some (.int .i64 a0_5) := (blk_cell BK243.out 5).trans rfl; have hfz74_0 := blk_frozen BK243.out 0; have hfz74_1 := blk_frozen BK243.out 1; have hfz74_2 := blk_frozen BK243.out 2; have hfz74_3 := blk_frozen BK243.out 3; have hfz74_4 := blk_frozen BK243.out 4; have hfz74_5 := blk_frozen BK243.out 5) | (go_at_call 17; (with_reducible refine (terrierref13_Tomb.calls kj35 _ _ l0_0 t273 _ ?side1 ?side2 A57.out).mono ?_); (case side1 => repeat (first | exact (Kd.C_below HR0_0.out (by repeat (first | (with_reducible first | exact HB.out | apply below_alloc | apply pw_below_drewN | apply below_drew1 | refine below_set ?_ GE243.out | refine below_set ?_ GE257.out) | exact HB.out | exact Below.refl _ _))) | exact HR0_0.out | (with_reducible refine Kd.C_alloc ?_ _) | (with_reducible refine Kd.C_drewN ?_ _) | (with_reducible refine Kd.C_drew ?_))); (case side2 => exact HC0_0.out); rintro e w75 ⟨v274, rfl, ho0, hb⟩; have n0_ := Aside0.mk (Kd.R_elder' (by (with_reducible repeat (first | apply Kd.R_alloc | apply Kd.R_drewN | apply Kd.R_drew)); exact HO_4.out) (Kd.R_base ho0) hb); have n1_ := Aside0.mk (Kd.R_elder' (by (with_reducible repeat (first | apply Kd.R_alloc | apply Kd.R_drewN | apply Kd.R_drew)); exact HO_6.out) (Kd.R_base ho0) hb); have n2_ := Aside0.mk (Kd.R_elder' (by (with_reducible repeat (first | apply Kd.R_alloc | apply Kd.R_drewN | apply Kd.R_drew)); exact HO_258000.out) (Kd.R_base ho0) hb); have n3_ := Aside0.mk (Kd.R_elder' (by (with_reducible repeat (first | apply Kd.R_alloc | apply Kd.R_drewN | apply Kd.R_drew)); exact HO_258001.out) (Kd.R_base ho0) hb); have n4_ := Aside0.mk (Kd.R_elder' (by (with_reducible repeat (first | apply Kd.R_alloc | apply Kd.R_drewN | apply Kd.R_drew)); exact HO271.out) (Kd.R_base ho0) hb); have n5_ := Aside0.mk (Kd.R_lower (Kd.R_new' (Kd.R_new' (Kd.R_new' (Kd.R_new' (Kd.R_new' ho0 (Kd.R_lt (by (with_reducible repeat (first | apply Kd.R_alloc | apply Kd.R_drewN | apply Kd.R_drew)); exact HO_4.out))) (Kd.R_lt (by (with_reducible repeat (first | apply Kd.R_alloc | apply Kd.R_drewN | apply Kd.R_drew)); exact HO_6.out))) (Kd.R_lt (by (with_reducible repeat (first | apply Kd.R_alloc | apply Kd.R_drewN | apply Kd.R_drew)); exact HO_258000.out))) (Kd.R_lt (by (with_reducible repeat (first | apply Kd.R_alloc | apply Kd.R_drewN | apply Kd.R_drew)); exact HO_258001.out))) (Kd.R_lt (by (with_reducible repeat (first | apply Kd.R_alloc | apply Kd.R_drewN | apply Kd.R_drew)); exact HO271.out))) (below_size (by repeat (first | (with_reducible first | exact HB.out | apply below_alloc | apply pw_below_drewN | apply below_drew1 | refine below_set ?_ GE243.out | refine below_set ?_ GE257.out) | exact HB.out | exact Below.refl _ _)))); have n6_ := Aside0.mk (blk_below (g := gb243) (o := .cells #[.slice A0_0 l0_0.length c0_0, .slice A0_1 l0_1.length c0_1, .int .i64 a0_2, .int .i64 a0_3, .int .i64 a0_4, .int .i64 a0_5] 24 (0, 0)) (by (with_reducible repeat (first | refine blk_drewN ?_ _ | refine blk_drew ?_ | refine blk_alloc ?_ _)); exact BK243.out) hb); have n7_ := Aside0.mk (blk_below (g := gb257) (o := .cells #[.slice Ao22 t247.length co22, .slice Ao25 t250.length co25, .int .i64 t253, .int .i64 t254, .int .i64 t255, .int .i64 t256] 24 (0, 0)) (by (with_reducible repeat (first | refine blk_drewN ?_ _ | refine blk_drew ?_ | refine blk_alloc ?_ _)); exact BK257.out) hb); have n8_ := Aside0.mk (below_step (by repeat (first | (with_reducible first | exact HB.out | apply below_alloc | apply pw_below_drewN | apply below_drew1 | refine below_set ?_ GE243.out | refine below_set ?_ GE257.out) | exact HB.out | exact Below.refl _ _)) hb); clear HO_4; clear HO_6; clear HO_258000; clear HO_258001; clear HO271; clear BK243; clear BK257; clear HB; have HO_4 := n0_; have HO_6 := n1_; have HO_258000 := n2_; have HO_258001 := n3_; have HO271 := n4_; have HO275 := n5_; have BK243 := n6_; have BK257 := n7_; have HB := n8_; clear n0_ n1_ n2_ n3_ n4_ n5_ n6_ n7_ n8_; (try clear hb); (try clear hb2); (try clear hk); (try clear hi); (try clear ho0); obtain ⟨Ao76, co76, eo76⟩ := Kd.R_slice HO_6.out; subst eo76; obtain ⟨Ao77, co77, eo77⟩ := Kd.R_slice HO275.out; subst eo77) | (go_at_call 15; (with_reducible refine (terrierref01_Same.calls _ _ t262 _ _ t273 false _ ?side1 ?side2 ?side3 ?side4 A58.out).mono ?_); (case side1 => repeat (first | exact (Kd.R_reads' HO_6.out).2.2 | (with_reducible refine Kd.C_alloc ?_ _) | (with_reducible refine Kd.C_drewN ?_ _) | (with_reducible refine Kd.C_drew ?_))); (case side2 => exact (Kd.R_reads' HO_6.out).2.1); (case side3 => repeat (first | exact (Kd.R_reads' HO275.out).2.2 | (with_reducible refine Kd.C_alloc ?_ _) | (with_reducible refine Kd.C_drewN ?_ _) | (with_reducible refine Kd.C_drew ?_))); (case side4 => exact (Kd.R_reads' HO275.out).2.1); rintro e w' ⟨rfl, ⟨nd, rfl⟩⟩))
                              go_ret
                              exact ⟨by first | rfl | (simp [errW_none, errW_some] <;> rfl) | (simp [*, errW_none, errW_some] <;> rfl), by repeat (first | (with_reducible first | exact HB.out | apply below_alloc | apply pw_below_drewN | apply below_drew1 | refine below_set ?_ GE243.out | refine below_set ?_ GE257.out) | exact HB.out | exact Below.refl _ _)⟩
                          · rw [if_neg c56] at H
                            have c56b0 : (t263 == 0) = false := beq_eq_false_iff_ne.mpr c56
                            have c56b1 : (t263 != 0) = true := bne_iff_ne.mpr c56
                            obtain rfl := Option.some.inj H
                            have hnb78 := NB243_257.out
                            have hnc78 := NB257_243.out
                            have hcz79_0 : wc.cell? ⟨gb243, 0, none⟩ = some (.slice A0_0 l0_0.length c0_0) := (blk_cell BK243.out 0).trans rfl
                            have hcz79_1 : wc.cell? ⟨gb243, 1, none⟩ = some (.slice A0_1 l0_1.length c0_1) := (blk_cell BK243.out 1).trans rfl
                            have hcz79_2 : wc.cell? ⟨gb243, 2, none⟩ = some (.int .i64 a0_2) := (blk_cell BK243.out 2).trans rfl
                            have hcz79_3 : wc.cell? ⟨gb243, 3, none⟩ = some (.int .i64 a0_3) := (blk_cell BK243.out 3).trans rfl
                            have hcz79_4 : wc.cell? ⟨gb243, 4, none⟩ = some (.int .i64 a0_4) := (blk_cell BK243.out 4).trans rfl
                            have hcz79_5 : wc.cell? ⟨gb243, 5, none⟩ = some (.int .i64 a0_5) := (blk_cell BK243.out 5).trans rfl
                            have hfz79_0 := blk_frozen BK243.out 0
                            have hfz79_1 := blk_frozen BK243.out 1
                            have hfz79_2 := blk_frozen BK243.out 2
                            have hfz79_3 := blk_frozen BK243.out 3
                            have hfz79_4 := blk_frozen BK243.out 4
                            have hfz79_5 := blk_frozen BK243.out 5
                            go_wp2_with (first | (go_at_call 16; (with_reducible refine (terrierref13_Encode.calls kj35 _ _ l0_0 _ _ l0_1 a0_2 a0_3 a0_4 a0_5 t269 _ ?side1 ?side2 ?side3 ?side4 A52.out).mono ?_); (case side1 => repeat (first | exact (Kd.C_below HR0_0.out HB.out) | exact HR0_0.out | (with_reducible refine Kd.C_alloc ?_ _) | (with_reducible refine Kd.C_drewN ?_ _) | (with_reducible refine Kd.C_drew ?_))); (case side2 => exact HC0_0.out); (case side3 => repeat (first | exact (Kd.C_below HR0_1.out HB.out) | exact HR0_1.out | (with_reducible refine Kd.C_alloc ?_ _) | (with_reducible refine Kd.C_drewN ?_ _) | (with_reducible refine Kd.C_drew ?_))); (case side4 => exact HC0_1.out); rintro e w80 ⟨v270, rfl, ho0, hb⟩; have n0_ := Aside0.mk (Kd.R_elder' (by (with_reducible repeat (first | apply Kd.R_alloc | apply Kd.R_drewN | apply Kd.R_drew)); exact HO_4.out) (Kd.R_base ho0) hb); have n1_ := Aside0.mk (Kd.R_elder' (by (with_reducible repeat (first | apply Kd.R_alloc | apply Kd.R_drewN | apply Kd.R_drew)); exact HO_6.out) (Kd.R_base ho0) hb); have n2_ := Aside0.mk (Kd.R_elder' (by (with_reducible repeat (first | apply Kd.R_alloc | apply Kd.R_drewN | apply Kd.R_drew)); exact HO_258000.out) (Kd.R_base ho0) hb); have n3_ := Aside0.mk (Kd.R_elder' (by (with_reducible repeat (first | apply Kd.R_alloc | apply Kd.R_drewN | apply Kd.R_drew)); exact HO_258001.out) (Kd.R_base ho0) hb); have n4_ := Aside0.mk (Kd.R_lower (Kd.R_new' (Kd.R_new' (Kd.R_new' (Kd.R_new' ho0 (Kd.R_lt (by (with_reducible repeat (first | apply Kd.R_alloc | apply Kd.R_drewN | apply Kd.R_drew)); exact HO_4.out))) (Kd.R_lt (by (with_reducible repeat (first | apply Kd.R_alloc | apply Kd.R_drewN | apply Kd.R_drew)); exact HO_6.out))) (Kd.R_lt (by (with_reducible repeat (first | apply Kd.R_alloc | apply Kd.R_drewN | apply Kd.R_drew)); exact HO_258000.out))) (Kd.R_lt (by (with_reducible repeat (first | apply Kd.R_alloc | apply Kd.R_drewN | apply Kd.R_drew)); exact HO_258001.out))) (below_size (by repeat (first | (with_reducible first | exact HB.out | apply below_alloc | apply pw_below_drewN | apply below_drew1 | refine below_set ?_ GE243.out | refine below_set ?_ GE257.out) | exact HB.out | exact Below.refl _ _)))); have n5_ := Aside0.mk (blk_below (g := gb243) (o := .cells #[.slice A0_0 l0_0.length c0_0, .slice A0_1 l0_1.length c0_1, .int .i64 a0_2, .int .i64 a0_3, .int .i64 a0_4, .int .i64 a0_5] 24 (0, 0)) (by (with_reducible repeat (first | refine blk_drewN ?_ _ | refine blk_drew ?_ | refine blk_alloc ?_ _)); exact BK243.out) hb); have n6_ := Aside0.mk (blk_below (g := gb257) (o := .cells #[.slice Ao22 t247.length co22, .slice Ao25 t250.length co25, .int .i64 t253, .int .i64 t254, .int .i64 t255, .int .i64 t256] 24 (0, 0)) (by (with_reducible repeat (first | refine blk_drewN ?_ _ | refine blk_drew ?_ | refine blk_alloc ?_ _)); exact BK257.out) hb); have n7_ := Aside0.mk (below_step (by repeat (first | (with_reducible first | exact HB.out | apply below_alloc | apply pw_below_drewN | apply below_drew1 | refine below_set ?_ GE243.out | refine below_set ?_ GE257.out) | exact HB.out | exact Below.refl _ _)) hb); clear HO_4; clear HO_6; clear HO_258000; clear HO_258001; clear BK243; clear BK257; clear HB; have HO_4 := n0_; have HO_6 := n1_; have HO_258000 := n2_; have HO_258001 := n3_; have HO271 := n4_; have BK243 := n5_; have BK257 := n6_; have HB := n7_; clear n0_ n1_ n2_ n3_ n4_ n5_ n6_ n7_; (try clear hb); (try clear hb2); (try clear hk); (try clear hi); (try clear ho0); obtain ⟨Ao81, co81, eo81⟩ := Kd.R_slice HO_4.out; subst eo81; obtain ⟨Ao82, co82, eo82⟩ := Kd.R_slice HO271.out; subst eo82) | (go_at_call 15; (with_reducible refine (terrierref01_Same.calls _ _ t258 _ _ t269 true _ ?side1 ?side2 ?side3 ?side4 A53.out).mono ?_); (case side1 => repeat (first | exact (Kd.R_reads' HO_4.out).2.2 | (with_reducible refine Kd.C_alloc ?_ _) | (with_reducible refine Kd.C_drewN ?_ _) | (with_reducible refine Kd.C_drew ?_))); (case side2 => exact (Kd.R_reads' HO_4.out).2.1); (case side3 => repeat (first | exact (Kd.R_reads' HO271.out).2.2 | (with_reducible refine Kd.C_alloc ?_ _) | (with_reducible refine Kd.C_drewN ?_ _) | (with_reducible refine Kd.C_drew ?_))); (case side4 => exact (Kd.R_reads' HO271.out).2.1); rintro e w' ⟨rfl, ⟨nd, rfl⟩⟩))
                            go_ret
                            exact ⟨by first | rfl | (simp [errW_none, errW_some] <;> rfl) | (simp [*, errW_none, errW_some] <;> rfl), by repeat (first | (with_reducible first | exact HB.out | apply below_alloc | apply pw_below_drewN | apply below_drew1 | refine below_set ?_ GE243.out | refine below_set ?_ GE257.out) | exact HB.out | exact Below.refl _ _)⟩
                        · replace c55 := Bool.eq_false_iff.mpr c55
                          subst c55
                          have H1 : (if t263 = 4 then (some ((t262.length : Int) == 0)) else (some false)) = some r := by rw [if_neg (show ¬ (false = true) by decide)] at H; exact H
                          clear H
                          have H := H1
                          clear H1
                          by_cases c83 : t263 = 4
                          · rw [if_pos c83] at H
                            have c83b0 : (t263 == 4) = true := beq_iff_eq.mpr c83
                            have c83b1 : (t263 != 4) = false := bne_eq_false_iff_eq.mpr c83
                            clear c83
                            obtain rfl := Option.some.inj H
                            have hnb84 := NB243_257.out
                            have hnc84 := NB257_243.out
                            have hcz85_0 : wc.cell? ⟨gb243, 0, none⟩ = some (.slice A0_0 l0_0.length c0_0) := (blk_cell BK243.out 0).trans rfl
                            have hcz85_1 : wc.cell? ⟨gb243, 1, none⟩ = some (.slice A0_1 l0_1.length c0_1) := (blk_cell BK243.out 1).trans rfl
                            have hcz85_2 : wc.cell? ⟨gb243, 2, none⟩ = some (.int .i64 a0_2) := (blk_cell BK243.out 2).trans rfl
                            have hcz85_3 : wc.cell? ⟨gb243, 3, none⟩ = some (.int .i64 a0_3) := (blk_cell BK243.out 3).trans rfl
                            have hcz85_4 : wc.cell? ⟨gb243, 4, none⟩ = some (.int .i64 a0_4) := (blk_cell BK243.out 4).trans rfl
                            have hcz85_5 : wc.cell? ⟨gb243, 5, none⟩ = some (.int .i64 a0_5) := (blk_cell BK243.out 5).trans rfl
                            have hfz85_0 := blk_frozen BK243.out 0
                            have hfz85_1 := blk_frozen BK243.out 1
                            have hfz85_2 := blk_frozen BK243.out 2
                            have hfz85_3 := blk_frozen BK243.out 3
                            have hfz85_4 := blk_frozen BK243.out 4
                            have hfz85_5 := blk_frozen BK243.out 5
                            go_wp2_with (first | (go_at_call 16; (with_reducible refine (terrierref13_Encode.calls kj35 _ _ l0_0 _ _ l0_1 a0_2 a0_3 a0_4 a0_5 t269 _ ?side1 ?side2 ?side3 ?side4 A52.out).mono ?_); (case side1 => repeat (first | exact (Kd.C_below HR0_0.out HB.out) | exact HR0_0.out | (with_reducible refine Kd.C_alloc ?_ _) | (with_reducible refine Kd.C_drewN ?_ _) | (with_reducible refine Kd.C_drew ?_))); (case side2 => exact HC0_0.out); (case side3 => repeat (first | exact (Kd.C_below HR0_1.out HB.out) | exact HR0_1.out | (with_reducible refine Kd.C_alloc ?_ _) | (with_reducible refine Kd.C_drewN ?_ _) | (with_reducible refine Kd.C_drew ?_))); (case side4 => exact HC0_1.out); rintro e w86 ⟨v270, rfl, ho0, hb⟩; have n0_ := Aside0.mk (Kd.R_elder' (by (with_reducible repeat (first | apply Kd.R_alloc | apply Kd.R_drewN | apply Kd.R_drew)); exact HO_4.out) (Kd.R_base ho0) hb); have n1_ := Aside0.mk (Kd.R_elder' (by (with_reducible repeat (first | apply Kd.R_alloc | apply Kd.R_drewN | apply Kd.R_drew)); exact HO_6.out) (Kd.R_base ho0) hb); have n2_ := Aside0.mk (Kd.R_elder' (by (with_reducible repeat (first | apply Kd.R_alloc | apply Kd.R_drewN | apply Kd.R_drew)); exact HO_258000.out) (Kd.R_base ho0) hb); have n3_ := Aside0.mk (Kd.R_elder' (by (with_reducible repeat (first | apply Kd.R_alloc | apply Kd.R_drewN | apply Kd.R_drew)); exact HO_258001.out) (Kd.R_base ho0) hb); have n4_ := Aside0.mk (Kd.R_lower (Kd.R_new' (Kd.R_new' (Kd.R_new' (Kd.R_new' ho0 (Kd.R_lt (by (with_reducible repeat (first | apply Kd.R_alloc | apply Kd.R_drewN | apply Kd.R_drew)); exact HO_4.out))) (Kd.R_lt (by (with_reducible repeat (first | apply Kd.R_alloc | apply Kd.R_drewN | apply Kd.R_drew)); exact HO_6.out))) (Kd.R_lt (by (with_reducible repeat (first | apply Kd.R_alloc | apply Kd.R_drewN | apply Kd.R_drew)); exact HO_258000.out))) (Kd.R_lt (by (with_reducible repeat (first | apply Kd.R_alloc | apply Kd.R_drewN | apply Kd.R_drew)); exact HO_258001.out))) (below_size (by repeat (first | (with_reducible first | exact HB.out | apply below_alloc | apply pw_below_drewN | apply below_drew1 | refine below_set ?_ GE243.out | refine below_set ?_ GE257.out) | exact HB.out | exact Below.refl _ _)))); have n5_ := Aside0.mk (blk_below (g := gb243) (o := .cells #[.slice A0_0 l0_0.length c0_0, .slice A0_1 l0_1.length c0_1, .int .i64 a0_2, .int .i64 a0_3, .int .i64 a0_4, .int .i64 a0_5] 24 (0, 0)) (by (with_reducible repeat (first | refine blk_drewN ?_ _ | refine blk_drew ?_ | refine blk_alloc ?_ _)); exact BK243.out) hb); have n6_ := Aside0.mk (blk_below (g := gb257) (o := .cells #[.slice Ao22 t247.length co22, .slice Ao25 t250.length co25, .int .i64 t253, .int .i64 t254, .int .i64 t255, .int .i64 t256] 24 (0, 0)) (by (with_reducible repeat (first | refine blk_drewN ?_ _ | refine blk_drew ?_ | refine blk_alloc ?_ _)); exact BK257.out) hb); have n7_ := Aside0.mk (below_step (by repeat (first | (with_reducible first | exact HB.out | apply below_alloc | apply pw_below_drewN | apply below_drew1 | refine below_set ?_ GE243.out | refine below_set ?_ GE257.out) | exact HB.out | exact Below.refl _ _)) hb); clear HO_4; clear HO_6; clear HO_258000; clear HO_258001; clear BK243; clear BK257; clear HB; have HO_4 := n0_; have HO_6 := n1_; have HO_258000 := n2_; have HO_258001 := n3_; have HO271 := n4_; have BK243 := n5_; have BK257 := n6_; have HB := n7_; clear n0_ n1_ n2_ n3_ n4_ n5_ n6_ n7_; (try clear hb); (try clear hb2); (try clear hk); (try clear hi); (try clear ho0); obtain ⟨Ao87, co87, eo87⟩ := Kd.R_slice HO_4.out; subst eo87; obtain ⟨Ao88, co88, eo88⟩ := Kd.R_slice HO271.out; subst eo88) | (go_at_call 15; (with_reducible refine (terrierref01_Same.calls _ _ t258 _ _ t269 true _ ?side1 ?side2 ?side3 ?side4 A53.out).mono ?_); (case side1 => repeat (first | exact (Kd.R_reads' HO_4.out).2.2 | (with_reducible refine Kd.C_alloc ?_ _) | (with_reducible refine Kd.C_drewN ?_ _) | (with_reducible refine Kd.C_drew ?_))); (case side2 => exact (Kd.R_reads' HO_4.out).2.1); (case side3 => repeat (first | exact (Kd.R_reads' HO271.out).2.2 | (with_reducible refine Kd.C_alloc ?_ _) | (with_reducible refine Kd.C_drewN ?_ _) | (with_reducible refine Kd.C_drew ?_))); (case side4 => exact (Kd.R_reads' HO271.out).2.1); rintro e w' ⟨rfl, ⟨nd, rfl⟩⟩; obtain ⟨Ao89, co89, eo89⟩ := Kd.R_slice HO_6.out; subst eo89))
                            go_ret
                            exact ⟨by first | rfl | (simp [errW_none, errW_some] <;> rfl) | (simp [*, errW_none, errW_some] <;> rfl), by repeat (first | (with_reducible first | exact HB.out | apply below_alloc | apply pw_below_drewN | apply below_drew1 | refine below_set ?_ GE243.out | refine below_set ?_ GE257.out) | exact HB.out | exact Below.refl _ _)⟩
                          · rw [if_neg c83] at H
                            have c83b0 : (t263 == 4) = false := beq_eq_false_iff_ne.mpr c83
                            have c83b1 : (t263 != 4) = true := bne_iff_ne.mpr c83
                            obtain rfl := Option.some.inj H
                            have hnb90 := NB243_257.out
                            have hnc90 := NB257_243.out
                            have hcz91_0 : wc.cell? ⟨gb243, 0, none⟩ = some (.slice A0_0 l0_0.length c0_0) := (blk_cell BK243.out 0).trans rfl
                            have hcz91_1 : wc.cell? ⟨gb243, 1, none⟩ = some (.slice A0_1 l0_1.length c0_1) := (blk_cell BK243.out 1).trans rfl
                            have hcz91_2 : wc.cell? ⟨gb243, 2, none⟩ = some (.int .i64 a0_2) := (blk_cell BK243.out 2).trans rfl
                            have hcz91_3 : wc.cell? ⟨gb243, 3, none⟩ = some (.int .i64 a0_3) := (blk_cell BK243.out 3).trans rfl
                            have hcz91_4 : wc.cell? ⟨gb243, 4, none⟩ = some (.int .i64 a0_4) := (blk_cell BK243.out 4).trans rfl
                            have hcz91_5 : wc.cell? ⟨gb243, 5, none⟩ = some (.int .i64 a0_5) := (blk_cell BK243.out 5).trans rfl
                            have hfz91_0 := blk_frozen BK243.out 0
                            have hfz91_1 := blk_frozen BK243.out 1
                            have hfz91_2 := blk_frozen BK243.out 2
                            have hfz91_3 := blk_frozen BK243.out 3
                            have hfz91_4 := blk_frozen BK243.out 4
                            have hfz91_5 := blk_frozen BK243.out 5
                            go_wp2_with (first | (go_at_call 16; (with_reducible refine (terrierref13_Encode.calls kj35 _ _ l0_0 _ _ l0_1 a0_2 a0_3 a0_4 a0_5 t269 _ ?side1 ?side2 ?side3 ?side4 A52.out).mono ?_); (case side1 => repeat (first | exact (Kd.C_below HR0_0.out HB.out) | exact HR0_0.out | (with_reducible refine Kd.C_alloc ?_ _) | (with_reducible refine Kd.C_drewN ?_ _) | (with_reducible refine Kd.C_drew ?_))); (case side2 => exact HC0_0.out); (case side3 => repeat (first | exact (Kd.C_below HR0_1.out HB.out) | exact HR0_1.out | (with_reducible refine Kd.C_alloc ?_ _) | (with_reducible refine Kd.C_drewN ?_ _) | (with_reducible refine Kd.C_drew ?_))); (case side4 => exact HC0_1.out); rintro e w92 ⟨v270, rfl, ho0, hb⟩; have n0_ := Aside0.mk (Kd.R_elder' (by (with_reducible repeat (first | apply Kd.R_alloc | apply Kd.R_drewN | apply Kd.R_drew)); exact HO_4.out) (Kd.R_base ho0) hb); have n1_ := Aside0.mk (Kd.R_elder' (by (with_reducible repeat (first | apply Kd.R_alloc | apply Kd.R_drewN | apply Kd.R_drew)); exact HO_6.out) (Kd.R_base ho0) hb); have n2_ := Aside0.mk (Kd.R_elder' (by (with_reducible repeat (first | apply Kd.R_alloc | apply Kd.R_drewN | apply Kd.R_drew)); exact HO_258000.out) (Kd.R_base ho0) hb); have n3_ := Aside0.mk (Kd.R_elder' (by (with_reducible repeat (first | apply Kd.R_alloc | apply Kd.R_drewN | apply Kd.R_drew)); exact HO_258001.out) (Kd.R_base ho0) hb); have n4_ := Aside0.mk (Kd.R_lower (Kd.R_new' (Kd.R_new' (Kd.R_new' (Kd.R_new' ho0 (Kd.R_lt (by (with_reducible repeat (first | apply Kd.R_alloc | apply Kd.R_drewN | apply Kd.R_drew)); exact HO_4.out))) (Kd.R_lt (by (with_reducible repeat (first | apply Kd.R_alloc | apply Kd.R_drewN | apply Kd.R_drew)); exact HO_6.out))) (Kd.R_lt (by (with_reducible repeat (first | apply Kd.R_alloc | apply Kd.R_drewN | apply Kd.R_drew)); exact HO_258000.out))) (Kd.R_lt (by (with_reducible repeat (first | apply Kd.R_alloc | apply Kd.R_drewN | apply Kd.R_drew)); exact HO_258001.out))) (below_size (by repeat (first | (with_reducible first | exact HB.out | apply below_alloc | apply pw_below_drewN | apply below_drew1 | refine below_set ?_ GE243.out | refine below_set ?_ GE257.out) | exact HB.out | exact Below.refl _ _)))); have n5_ := Aside0.mk (blk_below (g := gb243) (o := .cells #[.slice A0_0 l0_0.length c0_0, .slice A0_1 l0_1.length c0_1, .int .i64 a0_2, .int .i64 a0_3, .int .i64 a0_4, .int .i64 a0_5] 24 (0, 0)) (by (with_reducible repeat (first | refine blk_drewN ?_ _ | refine blk_drew ?_ | refine blk_alloc ?_ _)); exact BK243.out) hb); have n6_ := Aside0.mk (blk_below (g := gb257) (o := .cells #[.slice Ao22 t247.length co22, .slice Ao25 t250.length co25, .int .i64 t253, .int .i64 t254, .int .i64 t255, .int .i64 t256] 24 (0, 0)) (by (with_reducible repeat (first | refine blk_drewN ?_ _ | refine blk_drew ?_ | refine blk_alloc ?_ _)); exact BK257.out) hb); have n7_ := Aside0.mk (below_step (by repeat (first | (with_reducible first | exact HB.out | apply below_alloc | apply pw_below_drewN | apply below_drew1 | refine below_set ?_ GE243.out | refine below_set ?_ GE257.out) | exact HB.out | exact Below.refl _ _)) hb); clear HO_4; clear HO_6; clear HO_258000; clear HO_258001; clear BK243; clear BK257; clear HB; have HO_4 := n0_; have HO_6 := n1_; have HO_258000 := n2_; have HO_258001 := n3_; have HO271 := n4_; have BK243 := n5_; have BK257 := n6_; have HB := n7_; clear n0_ n1_ n2_ n3_ n4_ n5_ n6_ n7_; (try clear hb); (try clear hb2); (try clear hk); (try clear hi); (try clear ho0); obtain ⟨Ao93, co93, eo93⟩ := Kd.R_slice HO_4.out; subst eo93; obtain ⟨Ao94, co94, eo94⟩ := Kd.R_slice HO271.out; subst eo94) | (go_at_call 15; (with_reducible refine (terrierref01_Same.calls _ _ t258 _ _ t269 true _ ?side1 ?side2 ?side3 ?side4 A53.out).mono ?_); (case side1 => repeat (first | exact (Kd.R_reads' HO_4.out).2.2 | (with_reducible refine Kd.C_alloc ?_ _) | (with_reducible refine Kd.C_drewN ?_ _) | (with_reducible refine Kd.C_drew ?_))); (case side2 => exact (Kd.R_reads' HO_4.out).2.1); (case side3 => repeat (first | exact (Kd.R_reads' HO271.out).2.2 | (with_reducible refine Kd.C_alloc ?_ _) | (with_reducible refine Kd.C_drewN ?_ _) | (with_reducible refine Kd.C_drew ?_))); (case side4 => exact (Kd.R_reads' HO271.out).2.1); rintro e w' ⟨rfl, ⟨nd, rfl⟩⟩))
                            go_ret
                            exact ⟨by first | rfl | (simp [errW_none, errW_some] <;> rfl) | (simp [*, errW_none, errW_some] <;> rfl), by repeat (first | (with_reducible first | exact HB.out | apply below_alloc | apply pw_below_drewN | apply below_drew1 | refine below_set ?_ GE243.out | refine below_set ?_ GE257.out) | exact HB.out | exact Below.refl _ _)⟩
                      · replace c54 := Bool.eq_false_iff.mpr c54
                        subst c54
                        have H1 : (some false) = some r := by rw [if_neg (show ¬ (false = true) by decide)] at H; exact H
                        clear H
                        have H := H1
                        clear H1
                        obtain rfl := Option.some.inj H
                        have hnb95 := NB243_257.out
                        have hnc95 := NB257_243.out
                        have hcz96_0 : wc.cell? ⟨gb243, 0, none⟩ = some (.slice A0_0 l0_0.length c0_0) := (blk_cell BK243.out 0).trans rfl
                        have hcz96_1 : wc.cell? ⟨gb243, 1, none⟩ = some (.slice A0_1 l0_1.length c0_1) := (blk_cell BK243.out 1).trans rfl
                        have hcz96_2 : wc.cell? ⟨gb243, 2, none⟩ = some (.int .i64 a0_2) := (blk_cell BK243.out 2).trans rfl
                        have hcz96_3 : wc.cell? ⟨gb243, 3, none⟩ = some (.int .i64 a0_3) := (blk_cell BK243.out 3).trans rfl
                        have hcz96_4 : wc.cell? ⟨gb243, 4, none⟩ = some (.int .i64 a0_4) := (blk_cell BK243.out 4).trans rfl
                        have hcz96_5 : wc.cell? ⟨gb243, 5, none⟩ = some (.int .i64 a0_5) := (blk_cell BK243.out 5).trans rfl
                        have hfz96_0 := blk_frozen BK243.out 0
                        have hfz96_1 := blk_frozen BK243.out 1
                        have hfz96_2 := blk_frozen BK243.out 2
                        have hfz96_3 := blk_frozen BK243.out 3
                        have hfz96_4 := blk_frozen BK243.out 4
                        have hfz96_5 := blk_frozen BK243.out 5
                        go_wp2_with (first | (go_at_call 16; (with_reducible refine (terrierref13_Encode.calls kj35 _ _ l0_0 _ _ l0_1 a0_2 a0_3 a0_4 a0_5 t269 _ ?side1 ?side2 ?side3 ?side4 A52.out).mono ?_); (case side1 => repeat (first | exact (Kd.C_below HR0_0.out HB.out) | exact HR0_0.out | (with_reducible refine Kd.C_alloc ?_ _) | (with_reducible refine Kd.C_drewN ?_ _) | (with_reducible refine Kd.C_drew ?_))); (case side2 => exact HC0_0.out); (case side3 => repeat (first | exact (Kd.C_below HR0_1.out HB.out) | exact HR0_1.out | (with_reducible refine Kd.C_alloc ?_ _) | (with_reducible refine Kd.C_drewN ?_ _) | (with_reducible refine Kd.C_drew ?_))); (case side4 => exact HC0_1.out); rintro e w97 ⟨v270, rfl, ho0, hb⟩; have n0_ := Aside0.mk (Kd.R_elder' (by (with_reducible repeat (first | apply Kd.R_alloc | apply Kd.R_drewN | apply Kd.R_drew)); exact HO_4.out) (Kd.R_base ho0) hb); have n1_ := Aside0.mk (Kd.R_elder' (by (with_reducible repeat (first | apply Kd.R_alloc | apply Kd.R_drewN | apply Kd.R_drew)); exact HO_6.out) (Kd.R_base ho0) hb); have n2_ := Aside0.mk (Kd.R_elder' (by (with_reducible repeat (first | apply Kd.R_alloc | apply Kd.R_drewN | apply Kd.R_drew)); exact HO_258000.out) (Kd.R_base ho0) hb); have n3_ := Aside0.mk (Kd.R_elder' (by (with_reducible repeat (first | apply Kd.R_alloc | apply Kd.R_drewN | apply Kd.R_drew)); exact HO_258001.out) (Kd.R_base ho0) hb); have n4_ := Aside0.mk (Kd.R_lower (Kd.R_new' (Kd.R_new' (Kd.R_new' (Kd.R_new' ho0 (Kd.R_lt (by (with_reducible repeat (first | apply Kd.R_alloc | apply Kd.R_drewN | apply Kd.R_drew)); exact HO_4.out))) (Kd.R_lt (by (with_reducible repeat (first | apply Kd.R_alloc | apply Kd.R_drewN | apply Kd.R_drew)); exact HO_6.out))) (Kd.R_lt (by (with_reducible repeat (first | apply Kd.R_alloc | apply Kd.R_drewN | apply Kd.R_drew)); exact HO_258000.out))) (Kd.R_lt (by (with_reducible repeat (first | apply Kd.R_alloc | apply Kd.R_drewN | apply Kd.R_drew)); exact HO_258001.out))) (below_size (by repeat (first | (with_reducible first | exact HB.out | apply below_alloc | apply pw_below_drewN | apply below_drew1 | refine below_set ?_ GE243.out | refine below_set ?_ GE257.out) | exact HB.out | exact Below.refl _ _)))); have n5_ := Aside0.mk (blk_below (g := gb243) (o := .cells #[.slice A0_0 l0_0.length c0_0, .slice A0_1 l0_1.length c0_1, .int .i64 a0_2, .int .i64 a0_3, .int .i64 a0_4, .int .i64 a0_5] 24 (0, 0)) (by (with_reducible repeat (first | refine blk_drewN ?_ _ | refine blk_drew ?_ | refine blk_alloc ?_ _)); exact BK243.out) hb); have n6_ := Aside0.mk (blk_below (g := gb257) (o := .cells #[.slice Ao22 t247.length co22, .slice Ao25 t250.length co25, .int .i64 t253, .int .i64 t254, .int .i64 t255, .int .i64 t256] 24 (0, 0)) (by (with_reducible repeat (first | refine blk_drewN ?_ _ | refine blk_drew ?_ | refine blk_alloc ?_ _)); exact BK257.out) hb); have n7_ := Aside0.mk (below_step (by repeat (first | (with_reducible first | exact HB.out | apply below_alloc | apply pw_below_drewN | apply below_drew1 | refine below_set ?_ GE243.out | refine below_set ?_ GE257.out) | exact HB.out | exact Below.refl _ _)) hb); clear HO_4; clear HO_6; clear HO_258000; clear HO_258001; clear BK243; clear BK257; clear HB; have HO_4 := n0_; have HO_6 := n1_; have HO_258000 := n2_; have HO_258001 := n3_; have HO271 := n4_; have BK243 := n5_; have BK257 := n6_; have HB := n7_; clear n0_ n1_ n2_ n3_ n4_ n5_ n6_ n7_; (try clear hb); (try clear hb2); (try clear hk); (try clear hi); (try clear ho0); obtain ⟨Ao98, co98, eo98⟩ := Kd.R_slice HO_4.out; subst eo98; obtain ⟨Ao99, co99, eo99⟩ := Kd.R_slice HO271.out; subst eo99) | (go_at_call 15; (with_reducible refine (terrierref01_Same.calls _ _ t258 _ _ t269 false _ ?side1 ?side2 ?side3 ?side4 A53.out).mono ?_); (case side1 => repeat (first | exact (Kd.R_reads' HO_4.out).2.2 | (with_reducible refine Kd.C_alloc ?_ _) | (with_reducible refine Kd.C_drewN ?_ _) | (with_reducible refine Kd.C_drew ?_))); (case side2 => exact (Kd.R_reads' HO_4.out).2.1); (case side3 => repeat (first | exact (Kd.R_reads' HO271.out).2.2 | (with_reducible refine Kd.C_alloc ?_ _) | (with_reducible refine Kd.C_drewN ?_ _) | (with_reducible refine Kd.C_drew ?_))); (case side4 => exact (Kd.R_reads' HO271.out).2.1); rintro e w' ⟨rfl, ⟨nd, rfl⟩⟩))
                        go_ret
                        exact ⟨by first | rfl | (simp [errW_none, errW_some] <;> rfl) | (simp [*, errW_none, errW_some] <;> rfl), by repeat (first | (with_reducible first | exact HB.out | apply below_alloc | apply pw_below_drewN | apply below_drew1 | refine below_set ?_ GE243.out | refine below_set ?_ GE257.out) | exact HB.out | exact Below.refl _ _)⟩
                    · rw [if_neg c51] at H
                      have c51b0 : (t261 == 0) = false := beq_eq_false_iff_ne.mpr c51
                      have c51b1 : (t261 != 0) = true := bne_iff_ne.mpr c51
                      obtain rfl := Option.some.inj H
                      go_wp2
                      go_ret
                      exact ⟨by first | rfl | (simp [errW_none, errW_some] <;> rfl) | (simp [*, errW_none, errW_some] <;> rfl), by repeat (first | (with_reducible first | exact HB.out | apply below_alloc | apply pw_below_drewN | apply below_drew1 | refine below_set ?_ GE243.out | refine below_set ?_ GE257.out) | exact HB.out | exact Below.refl _ _)⟩
                  · replace c50 := Bool.eq_false_iff.mpr c50
                    subst c50
                    have H1 : (if t261 = 4 then (if (t258.length : Int) = 0 then (if x9_17 = true then (if t263 = 0 then ((terrierref13_Tomb.f kj35 l0_0).bind fun t277 => ((terrierref01_Same.f t262 t277).bind fun t280 => (if t280 = true then (some true) else (some false)))) else (some false)) else (if t263 = 4 then (some ((t262.length : Int) == 0)) else (some false))) else (some false)) else (some false)) = some r := by rw [if_neg (show ¬ (false = true) by decide)] at H; exact H
                    clear H
                    have H := H1
                    clear H1
                    by_cases c100 : t261 = 4
                    · rw [if_pos c100] at H
                      have c100b0 : (t261 == 4) = true := beq_iff_eq.mpr c100
                      have c100b1 : (t261 != 4) = false := bne_eq_false_iff_eq.mpr c100
                      clear c100
                      by_cases c101 : (t258.length : Int) = 0
                      · rw [if_pos c101] at H
                        have c101b0 : ((t258.length : Int) == 0) = true := beq_iff_eq.mpr c101
                        have c101b1 : ((t258.length : Int) != 0) = false := bne_eq_false_iff_eq.mpr c101
                        clear c101
                        by_cases c102 : x9_17 = true
                        · subst c102
                          have H1 : (if t263 = 0 then ((terrierref13_Tomb.f kj35 l0_0).bind fun t277 => ((terrierref01_Same.f t262 t277).bind fun t280 => (if t280 = true then (some true) else (some false)))) else (some false)) = some r := by rw [if_pos rfl] at H; exact H
                          clear H
                          have H := H1
                          clear H1
                          by_cases c103 : t263 = 0
                          · rw [if_pos c103] at H
                            have c103b0 : (t263 == 0) = true := beq_iff_eq.mpr c103
                            have c103b1 : (t263 != 0) = false := bne_eq_false_iff_eq.mpr c103
                            clear c103
                            replace H := Option.bind_eq_some_iff.mp H
                            obtain ⟨t277, A1040, H⟩ := H
                            replace H : ((terrierref01_Same.f t262 t277).bind fun t280 => (if t280 = true then (some true) else (some false))) = some r := H
                            have A104 := Aside0.mk A1040
                            clear A1040
                            replace H := Option.bind_eq_some_iff.mp H
                            obtain ⟨t280, A1050, H⟩ := H
                            replace H : (if t280 = true then (some true) else (some false)) = some r := H
                            have A105 := Aside0.mk A1050
                            clear A1050
                            by_cases c106 : t280 = true
                            · subst c106
                              have H1 : (some true) = some r := by rw [if_pos rfl] at H; exact H
                              clear H
                              have H := H1
                              clear H1
                              obtain rfl := Option.some.inj H
                              obtain ⟨Ao107, co107, eo107⟩ := Kd.R_slice HO_4.out
                              subst eo107
                              have hnb108 := NB243_257.out
                              have hnc108 := NB257_243.out
                              have hcz109_0 : wc.cell? ⟨gb243, 0, none⟩ = some (.slice A0_0 l0_0.length c0_0) := (blk_cell BK243.out 0).trans rfl
                              have hcz109_1 : wc.cell? ⟨gb243, 1, none⟩ = some (.slice A0_1 l0_1.length c0_1) := (blk_cell BK243.out 1).trans rfl
                              have hcz109_2 : wc.cell? ⟨gb243, 2, none⟩ = some (.int .i64 a0_2) := (blk_cell BK243.out 2).trans rfl
                              have hcz109_3 : wc.cell? ⟨gb243, 3, none⟩ = some (.int .i64 a0_3) := (blk_cell BK243.out 3).trans rfl
                              have hcz109_4 : wc.cell? ⟨gb243, 4, none⟩ = some (.int .i64 a0_4) := (blk_cell BK243.out 4).trans rfl
                              have hcz109_5 : wc.cell? ⟨gb243, 5, none⟩ = some (.int .i64 a0_5) := (blk_cell BK243.out 5).trans rfl
                              have hfz109_0 := blk_frozen BK243.out 0
                              have hfz109_1 := blk_frozen BK243.out 1
                              have hfz109_2 := blk_frozen BK243.out 2
                              have hfz109_3 := blk_frozen BK243.out 3
                              have hfz109_4 := blk_frozen BK243.out 4
                              have hfz109_5 := blk_frozen BK243.out 5
                              go_wp2_with (first | (go_at_call 17; (with_reducible refine (terrierref13_Tomb.calls kj35 _ _ l0_0 t277 _ ?side1 ?side2 A104.out).mono ?_); (case side1 => repeat (first | exact (Kd.C_below HR0_0.out HB.out) | exact HR0_0.out | (with_reducible refine Kd.C_alloc ?_ _) | (with_reducible refine Kd.C_drewN ?_ _) | (with_reducible refine Kd.C_drew ?_))); (case side2 => exact HC0_0.out); rintro e w110 ⟨v278, rfl, ho0, hb⟩; have n0_ := Aside0.mk (Kd.R_elder' (by (with_reducible repeat (first | apply Kd.R_alloc | apply Kd.R_drewN | apply Kd.R_drew)); exact HO_4.out) (Kd.R_base ho0) hb); have n1_ := Aside0.mk (Kd.R_elder' (by (with_reducible repeat (first | apply Kd.R_alloc | apply Kd.R_drewN | apply Kd.R_drew)); exact HO_6.out) (Kd.R_base ho0) hb); have n2_ := Aside0.mk (Kd.R_elder' (by (with_reducible repeat (first | apply Kd.R_alloc | apply Kd.R_drewN | apply Kd.R_drew)); exact HO_258000.out) (Kd.R_base ho0) hb); have n3_ := Aside0.mk (Kd.R_elder' (by (with_reducible repeat (first | apply Kd.R_alloc | apply Kd.R_drewN | apply Kd.R_drew)); exact HO_258001.out) (Kd.R_base ho0) hb); have n4_ := Aside0.mk (Kd.R_lower (Kd.R_new' (Kd.R_new' (Kd.R_new' (Kd.R_new' ho0 (Kd.R_lt (by (with_reducible repeat (first | apply Kd.R_alloc | apply Kd.R_drewN | apply Kd.R_drew)); exact HO_4.out))) (Kd.R_lt (by (with_reducible repeat (first | apply Kd.R_alloc | apply Kd.R_drewN | apply Kd.R_drew)); exact HO_6.out))) (Kd.R_lt (by (with_reducible repeat (first | apply Kd.R_alloc | apply Kd.R_drewN | apply Kd.R_drew)); exact HO_258000.out))) (Kd.R_lt (by (with_reducible repeat (first | apply Kd.R_alloc | apply Kd.R_drewN | apply Kd.R_drew)); exact HO_258001.out))) (below_size (by repeat (first | (with_reducible first | exact HB.out | apply below_alloc | apply pw_below_drewN | apply below_drew1 | refine below_set ?_ GE243.out | refine below_set ?_ GE257.out) | exact HB.out | exact Below.refl _ _)))); have n5_ := Aside0.mk (blk_below (g := gb243) (o := .cells #[.slice A0_0 l0_0.length c0_0, .slice A0_1 l0_1.length c0_1, .int .i64 a0_2, .int .i64 a0_3, .int .i64 a0_4, .int .i64 a0_5] 24 (0, 0)) (by (with_reducible repeat (first | refine blk_drewN ?_ _ | refine blk_drew ?_ | refine blk_alloc ?_ _)); exact BK243.out) hb); have n6_ := Aside0.mk (blk_below (g := gb257) (o := .cells #[.slice Ao22 t247.length co22, .slice Ao25 t250.length co25, .int .i64 t253, .int .i64 t254, .int .i64 t255, .int .i64 t256] 24 (0, 0)) (by (with_reducible repeat (first | refine blk_drewN ?_ _ | refine blk_drew ?_ | refine blk_alloc ?_ _)); exact BK257.out) hb); have n7_ := Aside0.mk (below_step (by repeat (first | (with_reducible first | exact HB.out | apply below_alloc | apply pw_below_drewN | apply below_drew1 | refine below_set ?_ GE243.out | refine below_set ?_ GE257.out) | exact HB.out | exact Below.refl _ _)) hb); clear HO_4; clear HO_6; clear HO_258000; clear HO_258001; clear BK243; clear BK257; clear HB; have HO_4 := n0_; have HO_6 := n1_; have HO_258000 := n2_; have HO_258001 := n3_; have HO279 := n4_; have BK243 := n5_; have BK257 := n6_; have HB := n7_; clear n0_ n1_ n2_ n3_ n4_ n5_ n6_ n7_; (try clear hb); (try clear hb2); (try clear hk); (try clear hi); (try clear ho0); obtain ⟨Ao111, co111, eo111⟩ := Kd.R_slice HO_6.out; subst eo111; obtain ⟨Ao112, co112, eo112⟩ := Kd.R_slice HO279.out; subst eo112) | (go_at_call 15; (with_reducible refine (terrierref01_Same.calls _ _ t262 _ _ t277 true _ ?side1 ?side2 ?side3 ?side4 A105.out).mono ?_); (case side1 => repeat (first | exact (Kd.R_reads' HO_6.out).2.2 | (with_reducible refine Kd.C_alloc ?_ _) | (with_reducible refine Kd.C_drewN ?_ _) | (with_reducible refine Kd.C_drew ?_))); (case side2 => exact (Kd.R_reads' HO_6.out).2.1); (case side3 => repeat (first | exact (Kd.R_reads' HO279.out).2.2 | (with_reducible refine Kd.C_alloc ?_ _) | (with_reducible refine Kd.C_drewN ?_ _) | (with_reducible refine Kd.C_drew ?_))); (case side4 => exact (Kd.R_reads' HO279.out).2.1); rintro e w' ⟨rfl, ⟨nd, rfl⟩⟩))
                              go_ret
                              exact ⟨by first | rfl | (simp [errW_none, errW_some] <;> rfl) | (simp [*, errW_none, errW_some] <;> rfl), by repeat (first | (with_reducible first | exact HB.out | apply below_alloc | apply pw_below_drewN | apply below_drew1 | refine below_set ?_ GE243.out | refine below_set ?_ GE257.out) | exact HB.out | exact Below.refl _ _)⟩
                            · replace c106 := Bool.eq_false_iff.mpr c106
                              subst c106
                              have H1 : (some false) = some r := by rw [if_neg (show ¬ (false = true) by decide)] at H; exact H
                              clear H
                              have H := H1
                              clear H1
                              obtain rfl := Option.some.inj H
                              obtain ⟨Ao113, co113, eo113⟩ := Kd.R_slice HO_4.out
                              subst eo113
                              have hnb114 := NB243_257.out
                              have hnc114 := NB257_243.out
                              have hcz115_0 : wc.cell? ⟨gb243, 0, none⟩ = some (.slice A0_0 l0_0.length c0_0) := (blk_cell BK243.out 0).trans rfl
                              have hcz115_1 : wc.cell? ⟨gb243, 1, none⟩ = some (.slice A0_1 l0_1.length c0_1) := (blk_cell BK243.out 1).trans rfl
                              have hcz115_2 : wc.cell? ⟨gb243, 2, none⟩ = some (.int .i64 a0_2) := (blk_cell BK243.out 2).trans rfl
                              have hcz115_3 : wc.cell? ⟨gb243, 3, none⟩ = some (.int .i64 a0_3) := (blk_cell BK243.out 3).trans rfl
                              have hcz115_4 : wc.cell? ⟨gb243, 4, none⟩ = some (.int .i64 a0_4) := (blk_cell BK243.out 4).trans rfl
                              have hcz115_5 : wc.cell? ⟨gb243, 5, none⟩ = some (.int .i64 a0_5) := (blk_cell BK243.out 5).trans rfl
                              have hfz115_0 := blk_frozen BK243.out 0
                              have hfz115_1 := blk_frozen BK243.out 1
                              have hfz115_2 := blk_frozen BK243.out 2
                              have hfz115_3 := blk_frozen BK243.out 3
                              have hfz115_4 := blk_frozen BK243.out 4
                              have hfz115_5 := blk_frozen BK243.out 5
                              go_wp2_with (first | (go_at_call 17; (with_reducible refine (terrierref13_Tomb.calls kj35 _ _ l0_0 t277 _ ?side1 ?side2 A104.out).mono ?_); (case side1 => repeat (first | exact (Kd.C_below HR0_0.out HB.out) | exact HR0_0.out | (with_reducible refine Kd.C_alloc ?_ _) | (with_reducible refine Kd.C_drewN ?_ _) | (with_reducible refine Kd.C_drew ?_))); (case side2 => exact HC0_0.out); rintro e w116 ⟨v278, rfl, ho0, hb⟩; have n0_ := Aside0.mk (Kd.R_elder' (by (with_reducible repeat (first | apply Kd.R_alloc | apply Kd.R_drewN | apply Kd.R_drew)); exact HO_4.out) (Kd.R_base ho0) hb); have n1_ := Aside0.mk (Kd.R_elder' (by (with_reducible repeat (first | apply Kd.R_alloc | apply Kd.R_drewN | apply Kd.R_drew)); exact HO_6.out) (Kd.R_base ho0) hb); have n2_ := Aside0.mk (Kd.R_elder' (by (with_reducible repeat (first | apply Kd.R_alloc | apply Kd.R_drewN | apply Kd.R_drew)); exact HO_258000.out) (Kd.R_base ho0) hb); have n3_ := Aside0.mk (Kd.R_elder' (by (with_reducible repeat (first | apply Kd.R_alloc | apply Kd.R_drewN | apply Kd.R_drew)); exact HO_258001.out) (Kd.R_base ho0) hb); have n4_ := Aside0.mk (Kd.R_lower (Kd.R_new' (Kd.R_new' (Kd.R_new' (Kd.R_new' ho0 (Kd.R_lt (by (with_reducible repeat (first | apply Kd.R_alloc | apply Kd.R_drewN | apply Kd.R_drew)); exact HO_4.out))) (Kd.R_lt (by (with_reducible repeat (first | apply Kd.R_alloc | apply Kd.R_drewN | apply Kd.R_drew)); exact HO_6.out))) (Kd.R_lt (by (with_reducible repeat (first | apply Kd.R_alloc | apply Kd.R_drewN | apply Kd.R_drew)); exact HO_258000.out))) (Kd.R_lt (by (with_reducible repeat (first | apply Kd.R_alloc | apply Kd.R_drewN | apply Kd.R_drew)); exact HO_258001.out))) (below_size (by repeat (first | (with_reducible first | exact HB.out | apply below_alloc | apply pw_below_drewN | apply below_drew1 | refine below_set ?_ GE243.out | refine below_set ?_ GE257.out) | exact HB.out | exact Below.refl _ _)))); have n5_ := Aside0.mk (blk_below (g := gb243) (o := .cells #[.slice A0_0 l0_0.length c0_0, .slice A0_1 l0_1.length c0_1, .int .i64 a0_2, .int .i64 a0_3, .int .i64 a0_4, .int .i64 a0_5] 24 (0, 0)) (by (with_reducible repeat (first | refine blk_drewN ?_ _ | refine blk_drew ?_ | refine blk_alloc ?_ _)); exact BK243.out) hb); have n6_ := Aside0.mk (blk_below (g := gb257) (o := .cells #[.slice Ao22 t247.length co22, .slice Ao25 t250.length co25, .int .i64 t253, .int .i64 t254, .int .i64 t255, .int .i64 t256] 24 (0, 0)) (by (with_reducible repeat (first | refine blk_drewN ?_ _ | refine blk_drew ?_ | refine blk_alloc ?_ _)); exact BK257.out) hb); have n7_ := Aside0.mk (below_step (by repeat (first | (with_reducible first | exact HB.out | apply below_alloc | apply pw_below_drewN | apply below_drew1 | refine below_set ?_ GE243.out | refine below_set ?_ GE257.out) | exact HB.out | exact Below.refl _ _)) hb); clear HO_4; clear HO_6; clear HO_258000; clear HO_258001; clear BK243; clear BK257; clear HB; have HO_4 := n0_; have HO_6 := n1_; have HO_258000 := n2_; have HO_258001 := n3_; have HO279 := n4_; have BK243 := n5_; have BK257 := n6_; have HB := n7_; clear n0_ n1_ n2_ n3_ n4_ n5_ n6_ n7_; (try clear hb); (try clear hb2); (try clear hk); (try clear hi); (try clear ho0); obtain ⟨Ao117, co117, eo117⟩ := Kd.R_slice HO_6.out; subst eo117; obtain ⟨Ao118, co118, eo118⟩ := Kd.R_slice HO279.out; subst eo118) | (go_at_call 15; (with_reducible refine (terrierref01_Same.calls _ _ t262 _ _ t277 false _ ?side1 ?side2 ?side3 ?side4 A105.out).mono ?_); (case side1 => repeat (first | exact (Kd.R_reads' HO_6.out).2.2 | (with_reducible refine Kd.C_alloc ?_ _) | (with_reducible refine Kd.C_drewN ?_ _) | (with_reducible refine Kd.C_drew ?_))); (case side2 => exact (Kd.R_reads' HO_6.out).2.1); (case side3 => repeat (first | exact (Kd.R_reads' HO279.out).2.2 | (with_reducible refine Kd.C_alloc ?_ _) | (with_reducible refine Kd.C_drewN ?_ _) | (with_reducible refine Kd.C_drew ?_))); (case side4 => exact (Kd.R_reads' HO279.out).2.1); rintro e w' ⟨rfl, ⟨nd, rfl⟩⟩))
                              go_ret
                              exact ⟨by first | rfl | (simp [errW_none, errW_some] <;> rfl) | (simp [*, errW_none, errW_some] <;> rfl), by repeat (first | (with_reducible first | exact HB.out | apply below_alloc | apply pw_below_drewN | apply below_drew1 | refine below_set ?_ GE243.out | refine below_set ?_ GE257.out) | exact HB.out | exact Below.refl _ _)⟩
                          · rw [if_neg c103] at H
                            have c103b0 : (t263 == 0) = false := beq_eq_false_iff_ne.mpr c103
                            have c103b1 : (t263 != 0) = true := bne_iff_ne.mpr c103
                            obtain rfl := Option.some.inj H
                            obtain ⟨Ao119, co119, eo119⟩ := Kd.R_slice HO_4.out
                            subst eo119
                            go_wp2
                            go_ret
                            exact ⟨by first | rfl | (simp [errW_none, errW_some] <;> rfl) | (simp [*, errW_none, errW_some] <;> rfl), by repeat (first | (with_reducible first | exact HB.out | apply below_alloc | apply pw_below_drewN | apply below_drew1 | refine below_set ?_ GE243.out | refine below_set ?_ GE257.out) | exact HB.out | exact Below.refl _ _)⟩
                        · replace c102 := Bool.eq_false_iff.mpr c102
                          subst c102
                          have H1 : (if t263 = 4 then (some ((t262.length : Int) == 0)) else (some false)) = some r := by rw [if_neg (show ¬ (false = true) by decide)] at H; exact H
                          clear H
                          have H := H1
                          clear H1
                          by_cases c120 : t263 = 4
                          · rw [if_pos c120] at H
                            have c120b0 : (t263 == 4) = true := beq_iff_eq.mpr c120
                            have c120b1 : (t263 != 4) = false := bne_eq_false_iff_eq.mpr c120
                            clear c120
                            obtain rfl := Option.some.inj H
                            obtain ⟨Ao121, co121, eo121⟩ := Kd.R_slice HO_4.out
                            subst eo121
                            obtain ⟨Ao122, co122, eo122⟩ := Kd.R_slice HO_6.out
                            subst eo122
                            go_wp2
                            go_ret
                            exact ⟨by first | rfl | (simp [errW_none, errW_some] <;> rfl) | (simp [*, errW_none, errW_some] <;> rfl), by repeat (first | (with_reducible first | exact HB.out | apply below_alloc | apply pw_below_drewN | apply below_drew1 | refine below_set ?_ GE243.out | refine below_set ?_ GE257.out) | exact HB.out | exact Below.refl _ _)⟩
                          · rw [if_neg c120] at H
                            have c120b0 : (t263 == 4) = false := beq_eq_false_iff_ne.mpr c120
                            have c120b1 : (t263 != 4) = true := bne_iff_ne.mpr c120
                            obtain rfl := Option.some.inj H
                            obtain ⟨Ao123, co123, eo123⟩ := Kd.R_slice HO_4.out
                            subst eo123
                            go_wp2
                            go_ret
                            exact ⟨by first | rfl | (simp [errW_none, errW_some] <;> rfl) | (simp [*, errW_none, errW_some] <;> rfl), by repeat (first | (with_reducible first | exact HB.out | apply below_alloc | apply pw_below_drewN | apply below_drew1 | refine below_set ?_ GE243.out | refine below_set ?_ GE257.out) | exact HB.out | exact Below.refl _ _)⟩
                      · rw [if_neg c101] at H
                        have c101b0 : ((t258.length : Int) == 0) = false := beq_eq_false_iff_ne.mpr c101
                        have c101b1 : ((t258.length : Int) != 0) = true := bne_iff_ne.mpr c101
                        have c101b2 : ¬ (t258 = []) := fun h_ => c101 (by rw [h_]; rfl)
                        obtain rfl := Option.some.inj H
                        obtain ⟨Ao124, co124, eo124⟩ := Kd.R_slice HO_4.out
                        subst eo124
                        go_wp2
                        go_ret
                        exact ⟨by first | rfl | (simp [errW_none, errW_some] <;> rfl) | (simp [*, errW_none, errW_some] <;> rfl), by repeat (first | (with_reducible first | exact HB.out | apply below_alloc | apply pw_below_drewN | apply below_drew1 | refine below_set ?_ GE243.out | refine below_set ?_ GE257.out) | exact HB.out | exact Below.refl _ _)⟩
                    · rw [if_neg c100] at H
                      have c100b0 : (t261 == 4) = false := beq_eq_false_iff_ne.mpr c100
                      have c100b1 : (t261 != 4) = true := bne_iff_ne.mpr c100
                      obtain rfl := Option.some.inj H
                      go_wp2
                      go_ret
                      exact ⟨by first | rfl | (simp [errW_none, errW_some] <;> rfl) | (simp [*, errW_none, errW_some] <;> rfl), by repeat (first | (with_reducible first | exact HB.out | apply below_alloc | apply pw_below_drewN | apply below_drew1 | refine below_set ?_ GE243.out | refine below_set ?_ GE257.out) | exact HB.out | exact Below.refl _ _)⟩

/-- THE ONE PURE STATEMENT of terrierlaw13_RecordCodes: yours. -/
def terrierlaw13_RecordCodes.Pure : Prop := ∀ (l0_0 : List Int) (l0_1 : List Int) (a0_2 : Int) (a0_3 : Int) (a0_4 : Int) (a0_5 : Int), (ok24 (⟨l0_0, l0_1, a0_2, a0_3, a0_4, a0_5⟩ : S24)) → ∃ k, terrierlaw13_RecordCodes.f k l0_0 l0_1 a0_2 a0_3 a0_4 a0_5 = some true
theorem terrierlaw13_RecordCodes.walk (P : terrierlaw13_RecordCodes.Pure) (A0_0 : Option Addr) (c0_0 : Nat) (l0_0 : List Int) (A0_1 : Option Addr) (c0_1 : Nat) (l0_1 : List Int) (a0_2 : Int) (a0_3 : Int) (a0_4 : Int) (a0_5 : Int) (w : World) (hk0 : ok24 (⟨l0_0, l0_1, a0_2, a0_3, a0_4, a0_5⟩ : S24)) (hr0_0 : Kd.C (Kd.int .u8) w A0_0 l0_0.length l0_0) (hc0_0 : l0_0.length ≤ c0_0) (hr0_1 : Kd.C (Kd.int .u8) w A0_1 l0_1.length l0_1) (hc0_1 : l0_1.length ≤ c0_1) :
    Calls Try.prog 3 #[.agg #[.slice A0_0 l0_0.length c0_0, .slice A0_1 l0_1.length c0_1, .int .i64 a0_2, .int .i64 a0_3, .int .i64 a0_4, .int .i64 a0_5]] w fun e w' => e = .returned (.bool true) ∧ Below w.heap.size w w' := by
  obtain ⟨k, h⟩ := P l0_0 l0_1 a0_2 a0_3 a0_4 a0_5 hk0
  refine (terrierlaw13_RecordCodes.calls k _ _ l0_0 _ _ l0_1 a0_2 a0_3 a0_4 a0_5 true w hr0_0 hc0_0 hr0_1 hc0_1 h).mono ?_
  rintro e w' ⟨rfl, hd⟩
  exact ⟨rfl, hd⟩

end Go.Proofs.Ytapmgeofbjgalaa.PS
