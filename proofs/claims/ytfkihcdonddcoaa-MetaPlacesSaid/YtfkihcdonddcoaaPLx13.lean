-- Written by wip/printx.py, a program of this work over the kit's print, for this claim.
import Derived.Test.YtfkihcdonddcoaaPLx0
import Derived.Test.YtfkihcdonddcoaaPLx11
namespace Go.Proofs.Ytfkihcdonddcoaa.PL
open Go.RowKit Go.Proofs.YtfkihcdonddcoaaW.PrintWords Go.Proofs.YtfkihcdonddcoaaW.PrintLast Go.Proofs.YtfkihcdonddcoaaW.PrintMore
attribute [local go_sem] max2_int min2_int max_two min_two max_three min_three max_four min_four   -- for this text's walks alone
attribute [local go_sem] Ext.pick_u8 Ext.pick_u32 Ext.pick_u64
set_option linter.unusedVariables false
set_option linter.unusedSimpArgs false



/-! ### meta_Choose: function 20 -/
def meta_Choose.l0 : Nat → Int → List (List Int) → Int → Int → Int → Int → Int → Int → Option (Int × Int × Int × Int × Int)
 | 0, _, _, _, _, _, _, _, _ => none
 | k + 1, x7, x14, x15, x16, x218000, x218001, x218002, x218003 => if x16 < x15 then (if 0 ≤ x16 then (if x16 < (x14.length : Int) then ((meta_Decode.f k (rd_L2 x14 x16)).bind fun bt222 => (if bt222.2.2.2.2 = 0 then (if (Int.tmod bt222.1 2) = (IntKind.u64.wrap (x16)) then (if x7 = 0 then (if bt222.1 > x218000 then (meta_Choose.l0 k 0 x14 x15 (wrap64 (x16 + 1)) bt222.1 bt222.2.1 bt222.2.2.1 bt222.2.2.2.1) else (meta_Choose.l0 k x7 x14 x15 (wrap64 (x16 + 1)) x218000 x218001 x218002 x218003)) else (meta_Choose.l0 k 0 x14 x15 (wrap64 (x16 + 1)) bt222.1 bt222.2.1 bt222.2.2.1 bt222.2.2.2.1)) else (meta_Choose.l0 k x7 x14 x15 (wrap64 (x16 + 1)) x218000 x218001 x218002 x218003)) else (meta_Choose.l0 k x7 x14 x15 (wrap64 (x16 + 1)) x218000 x218001 x218002 x218003))) else (none)) else (none)) else (some (x218000, x218001, x218002, x218003, x7))
def meta_Choose.f (k : Nat) (l0 : List Int) (l1 : List Int) : Option (Int × Int × Int × Int × Int) := (some (([l0, l1] : List (List Int)) : List (List Int))).bind fun y218 => (meta_Choose.l0 k 7 y218 (y218.length : Int) 0 0 0 0 0)
theorem meta_Choose.mono_l : ∀ k, (∀ y0 y1 y2 y3 y4 y5 y6 y7, LeO (meta_Choose.l0 k y0 y1 y2 y3 y4 y5 y6 y7) (meta_Choose.l0 (k + 1) y0 y1 y2 y3 y4 y5 y6 y7))
 | 0 => fun _ _ _ _ _ _ _ _ r h => by simp [meta_Choose.l0] at h
 | k + 1 => by
  have ih0 := meta_Choose.mono_l k
  ·
   intro y0 y1 y2 y3 y4 y5 y6 y7
   unfold meta_Choose.l0
   repeat' first
   | (with_reducible exact ih0 _ _ _ _ _ _ _ _)
   | (with_reducible exact meta_Decode.mono _ _)
   | (with_reducible exact LeO.refl _)
   | (with_reducible exact LeO.none _)
   | (with_reducible refine LeO.ite ?_ ?_)
   | (with_reducible refine LeO.bind ?_ (fun _ => ?_))
   | exact ih0 _ _ _ _ _ _ _ _
   | exact meta_Decode.mono _ _
   | exact LeO.none _
   | refine LeO.ite ?_ ?_
   | refine LeO.bind ?_ (fun _ => ?_)
theorem meta_Choose.mono : ∀ a0 a1 k, LeO (meta_Choose.f k a0 a1) (meta_Choose.f (k + 1) a0 a1) := by
 intro a0 a1 k
 have ih0 := meta_Choose.mono_l k
 unfold meta_Choose.f
 repeat' first
   | (with_reducible exact ih0 _ _ _ _ _ _ _ _)
   | (with_reducible exact meta_Decode.mono _ _)
   | (with_reducible exact LeO.refl _)
   | (with_reducible exact LeO.none _)
   | (with_reducible refine LeO.ite ?_ ?_)
   | (with_reducible refine LeO.bind ?_ (fun _ => ?_))
   | exact ih0 _ _ _ _ _ _ _ _
   | exact meta_Decode.mono _ _
   | exact LeO.none _
   | refine LeO.ite ?_ ?_
   | refine LeO.bind ?_ (fun _ => ?_)
set_option maxHeartbeats 8000000 in
set_option maxRecDepth 100000 in
theorem meta_Choose.calls (k : Nat) (P0_ : Nat → Prop) (A0 : Option Addr) (c0 : Nat) (l0 : List Int) (P1_ : Nat → Prop) (A1 : Option Addr) (c1 : Nat) (l1 : List Int) (r1 : Int) (r2 : Int) (r3 : Int) (r4 : Int) (r5 : Int) (w : World) (hs0 : Kd.V (Kd.int .u8) 5 w w.heap.size (fun k_ => P0_ k_) (.slice A0 l0.length c0) l0) (hs1 : Kd.V (Kd.int .u8) 5 w w.heap.size (fun k_ => P1_ k_) (.slice A1 l1.length c1) l1) (h : meta_Choose.f k l0 l1 = some (r1, r2, r3, r4, r5)) :
  Calls Try.prog 20 #[.slice A0 l0.length c0, .slice A1 l1.length c1] w fun e w' => e = .returned (.tuple #[.agg #[.int .u64 r1, .int .i64 r2, .int .i64 r3, .int .i64 r4], .int .i64 r5]) ∧ Below w.heap.size w w' := by
 have hu24 := Try.underlying24
 have HO0 := Ext.a (show Kd.V (Kd.int .u8) 5 w w.heap.size (fun k_ => ((P0_ k_ ∨ P1_ k_) ∨ w.heap.size ≤ k_)) (.slice A0 l0.length c0) l0 from Kd.V_mono hs0 (fun k_ hk => .inl (.inl hk)))
 have HO1 := Ext.a (show Kd.V (Kd.int .u8) 5 w w.heap.size (fun k_ => ((P0_ k_ ∨ P1_ k_) ∨ w.heap.size ≤ k_)) (.slice A1 l1.length c1) l1 from Kd.V_mono hs1 (fun k_ hk => .inl (.inr hk)))
 have HB := Ext.a (Below.refl w.heap.size w)
 have H : ((some (([l0, l1] : List (List Int)) : List (List Int))).bind fun y218 => (meta_Choose.l0 k 7 y218 (y218.length : Int) 0 0 0 0 0)) = some (r1, r2, r3, r4, r5) := h
 clear h
 obtain ⟨y218, hy218⟩ : ∃ y_ : List (List Int), y_ = (([l0, l1] : List (List Int))) := ⟨_, rfl⟩
 replace H : (meta_Choose.l0 k 7 y218 (y218.length : Int) 0 0 0 0 0) = some (r1, r2, r3, r4, r5) := by first | (rw [hy218]; with_reducible exact H) | (have H2_ := (Option.bind_some _ _).symm.trans H; rw [hy218]; with_reducible exact H2_) | (have H2_ := (Option.bind_some _ _).symm.trans H; with_reducible exact H2_) | with_reducible exact H | (rw [hy218]; exact H) | exact H
 have Ny218 := Aside0.mk hy218
 clear hy218
 have H' := Aside0.mk H
 clear H
 go_enter Try.func20, Try.ntmps20
 go_wp2_with (first | ((with_reducible refine gate_dst (N := 4) rfl ?_); refine box_event ?hg (N := 4) ?hd (cs := #[.int .u64 0, .int .i64 0, .int .i64 0, .int .i64 0]) (t := 24) ?hr ?_; (case hd => rfl); (case hg => rfl); (case hr => first | (go_simp; done) | (go_simp; rfl)); intro gb216 hg w3 hbox hb; have n0_ := Ext.a (Kd.V_below (Kd.V_elderB (Ext.nV HO0.out) gb216 (Nat.le_of_eq hg.symm)) hb); have n1_ := Ext.a (Kd.V_below (Kd.V_elderB (Ext.nV HO1.out) gb216 (Nat.le_of_eq hg.symm)) hb); have n2_ := Ext.a (below_step (Ext.nB HB.out) hb); have n3_ := Ext.a (hbox); have n4_ := Ext.a ((by rw [hg]; exact (below_size (Ext.nB HB.out)) : w.heap.size ≤ gb216)); have n5_ := Ext.a ((by rw [hg]; exact (below_size (Ext.nB HB.out)) : w.heap.size ≤ gb216)); clear HO0 HO1 HB; have HO0 := n0_; have HO1 := n1_; have HB := n2_; have BK216 := n3_; have GW216 := n4_; have GE216 := n5_; clear n0_ n1_ n2_ n3_ n4_ n5_; clear hb hbox hg) | ((with_reducible refine gate_dst (N := 6) rfl ?_); refine box_event ?hg (N := 6) ?hd (cs := #[.int .u64 0, .int .i64 0, .int .i64 0, .int .i64 0]) (t := 24) ?hr ?_; (case hd => rfl); (case hg => rfl); (case hr => first | (go_simp; done) | (go_simp; rfl)); intro gb217 hg w4 hbox hb; have n0_ := Ext.a (Kd.V_below (Kd.V_elderB (Ext.nV HO0.out) gb217 (Nat.le_of_eq hg.symm)) hb); have n1_ := Ext.a (Kd.V_below (Kd.V_elderB (Ext.nV HO1.out) gb217 (Nat.le_of_eq hg.symm)) hb); have n2_ := Ext.a (blk_below BK216.out hb); have n3_ := Ext.a (below_step (by repeat (first | (with_reducible first | exact HB.out | apply Ext.ba | apply Ext.bn | apply Ext.bd | refine Ext.bs ?_ GE216.out) | exact HB.out | exact .refl _ _)) hb); have n4_ := Ext.a (hbox); have n5_ := Ext.a ((by rw [hg]; exact (below_size (by repeat (first | (with_reducible first | exact HB.out | apply Ext.ba | apply Ext.bn | apply Ext.bd | refine Ext.bs ?_ GE216.out) | exact HB.out | exact .refl _ _))) : w.heap.size ≤ gb217)); have n6_ := Ext.a ((by rw [hg]; exact (below_size (by repeat (first | (with_reducible first | exact HB.out | apply Ext.ba | apply Ext.bn | apply Ext.bd | refine Ext.bs ?_ GE216.out) | exact HB.out | exact .refl _ _))) : w.heap.size ≤ gb217)); have n7_ := Ext.a ((by rw [hg]; exact Nat.ne_of_lt (blk_lt BK216.out) : gb216 ≠ gb217)); have n8_ := Ext.a ((by rw [hg]; exact Nat.ne_of_gt (blk_lt BK216.out) : gb217 ≠ gb216)); clear HO0 HO1 BK216 HB; have HO0 := n0_; have HO1 := n1_; have BK216 := n2_; have HB := n3_; have BK217 := n4_; have GW217 := n5_; have GE217 := n6_; have NB216_217 := n7_; have NB217_216 := n8_; clear n0_ n1_ n2_ n3_ n4_ n5_ n6_ n7_ n8_; clear hb hbox hg) | ((with_reducible refine gate_dst (N := 14) rfl ?_); refine Kd.N_lit (Kd.slice 5 (Kd.int .u8)) _ 26 ?hg (N' := 14) ?hd (xs := ([l0, l1] : List (List Int))) (inner := [.slice A0 l0.length c0, .slice A1 l1.length c1]) (ok := (fun k_ => ((P0_ k_ ∨ P1_ k_) ∨ w.heap.size ≤ k_) ∧ k_ ≠ gb216 ∧ k_ ≠ gb217)) (okp := (fun k_ => ((P0_ k_ ∨ P1_ k_) ∨ w.heap.size ≤ k_) ∧ k_ ≠ gb216 ∧ k_ ≠ gb217)) ?hr ?hp (fun _ hk => hk) ((show ∀ k_, w4.heap.size ≤ k_ → (fun k_ => ((P0_ k_ ∨ P1_ k_) ∨ w.heap.size ≤ k_) ∧ k_ ≠ gb216 ∧ k_ ≠ gb217) k_ from fun k_ hk => ⟨(.inr (Nat.le_trans (below_size (by repeat (first | (with_reducible first | exact HB.out | apply Ext.ba | apply Ext.bn | apply Ext.bd | refine Ext.bs ?_ GE216.out | refine Ext.bs ?_ GE217.out) | exact HB.out | exact .refl _ _))) hk)), Kd.freshB BK216.out k_ hk, Kd.freshB BK217.out k_ hk⟩) _ (Nat.le_refl _)) (Below.refl _ _) (Nat.le_refl _) (by simp) ?_; (case hd => rfl); (case hg => rfl); (case hr => first | (go_simp; done) | (go_simp; rfl)); (case hp => exact (Reps.one (show Kd.FK (Kd.slice 5 (Kd.int .u8)) _ _ l0 [.slice A0 l0.length c0] from (Kd.FK_slice_mk (Kd.V_reads' (Kd.V_mono (e := 0) (base := 0) (ok' := (fun k_ => ((P0_ k_ ∨ P1_ k_) ∨ w.heap.size ≤ k_) ∧ k_ ≠ gb216 ∧ k_ ≠ gb217)) (HO0.out) (fun k_ hk => ⟨hk.1.1, ⟨hk.1.2, hk.2⟩⟩))).2.1 (Kd.V_F (e := 0) (base := 0) (Kd.V_mono (e := 0) (base := 0) (ok' := (fun k_ => ((P0_ k_ ∨ P1_ k_) ∨ w.heap.size ≤ k_) ∧ k_ ≠ gb216 ∧ k_ ≠ gb217)) (HO0.out) (fun k_ hk => ⟨hk.1.1, ⟨hk.1.2, hk.2⟩⟩))))) (Reps.one (show Kd.FK (Kd.slice 5 (Kd.int .u8)) _ _ l1 [.slice A1 l1.length c1] from (Kd.FK_slice_mk (Kd.V_reads' (Kd.V_mono (e := 0) (base := 0) (ok' := (fun k_ => ((P0_ k_ ∨ P1_ k_) ∨ w.heap.size ≤ k_) ∧ k_ ≠ gb216 ∧ k_ ≠ gb217)) (HO1.out) (fun k_ hk => ⟨hk.1.1, ⟨hk.1.2, hk.2⟩⟩))).2.1 (Kd.V_F (e := 0) (base := 0) (Kd.V_mono (e := 0) (base := 0) (ok' := (fun k_ => ((P0_ k_ ∨ P1_ k_) ∨ w.heap.size ≤ k_) ∧ k_ ≠ gb216 ∧ k_ ≠ gb217)) (HO1.out) (fun k_ hk => ⟨hk.1.1, ⟨hk.1.2, hk.2⟩⟩))))) (Reps.none _ _)))); intro v219 w5 ho6 hb hg_ hnew_; clear hg_ hnew_; (first | rw [← Ny218.out] at ho6 | (simp only [Int.reduceToNat] at ho6; rw [← Ny218.out] at ho6)); have n0_ := Ext.a (Kd.V_elder' (Ext.nV HO0.out) (Kd.N_base ho6) hb); have n1_ := Ext.a (Kd.V_elder' (Ext.nV HO1.out) (Kd.N_base ho6) hb); have n2_ := Ext.a (Kd.N_lower ho6 (below_size (by repeat (first | (with_reducible first | exact HB.out | apply Ext.ba | apply Ext.bn | apply Ext.bd | refine Ext.bs ?_ GE216.out | refine Ext.bs ?_ GE217.out) | exact HB.out | exact .refl _ _)))); have n3_ := Ext.a (blk_below BK216.out hb); have n4_ := Ext.a (blk_below BK217.out hb); have n5_ := Ext.a (below_step (by repeat (first | (with_reducible first | exact HB.out | apply Ext.ba | apply Ext.bn | apply Ext.bd | refine Ext.bs ?_ GE216.out | refine Ext.bs ?_ GE217.out) | exact HB.out | exact .refl _ _)) hb); clear HO0 HO1 BK216 BK217 HB; have HO0 := n0_; have HO1 := n1_; have HO220 := n2_; have BK216 := n3_; have BK217 := n4_; have HB := n5_; clear n0_ n1_ n2_ n3_ n4_ n5_; clear hb ho6; obtain ⟨Ao7, co7, eo7⟩ := Kd.N_slice HO220.out; subst eo7))
 go_loopg [7, 16] k (fun kq v7 v16 w' => ∃ (x7_1 : Int) (x16_1 : Int) (x218000_1 : Int) (x218001_1 : Int) (x218002_1 : Int) (x218003_1 : Int), v7 = .int .i64 x7_1 ∧ v16 = .int .i64 x16_1 ∧ Aside0 (meta_Choose.l0 kq x7_1 y218 (y218.length : Int) x16_1 x218000_1 x218001_1 x218002_1 x218003_1 = some (r1, r2, r3, r4, r5)) ∧ Aside0 (kq ≤ k) ∧ Aside0 (Kd.N (Kd.slice 5 (Kd.int .u8)) 26 w' w.heap.size (fun k_ => ((P0_ k_ ∨ P1_ k_) ∨ w.heap.size ≤ k_) ∧ k_ ≠ gb216 ∧ k_ ≠ gb217) (.slice Ao7 y218.length co7) y218) ∧ Aside0 (w'.heap[gb216]? = some (.cells #[.int .u64 0, .int .i64 0, .int .i64 0, .int .i64 0] 24 (0, 0))) ∧ Aside0 (w'.heap[gb217]? = some (.cells #[.int .u64 x218000_1, .int .i64 x218001_1, .int .i64 x218002_1, .int .i64 x218003_1] 24 (0, 0))) ∧ Aside0 (Below w.heap.size w w'))
 case atStart => exact ⟨(7), (0), (0), (0), (0), (0), (by first | rfl | (simp; done) | (simp [*]; done)), (by first | rfl | (simp; done) | (simp [*]; done)), H', ⟨Nat.le_refl _⟩, ⟨by (with_reducible repeat (first | apply Kd.N_alloc | apply Kd.N_drewN | apply Kd.N_drew)); exact HO220.out⟩, ⟨by exact BK216.out⟩, ⟨by exact BK217.out⟩, ⟨by repeat (first | (with_reducible first | exact HB.out | apply Ext.ba | apply Ext.bn | apply Ext.bd | refine Ext.bs ?_ GE216.out | refine Ext.bs ?_ GE217.out) | exact HB.out | exact .refl _ _)⟩⟩
 case round =>
  clear H'
  try clear c1
  try clear c2
  try clear p2
  obtain ⟨x7_1, x16_1, x218000_1, x218001_1, x218002_1, x218003_1, rfl, rfl, HA, HK1, HO_14, BK216, BK217, HB⟩ := hrel
  cases gk with
  | zero => exact absurd HA.out (by simp [meta_Choose.l0])
  | succ k1 =>
   have H := HA.out
   clear HA
   simp only [meta_Choose.l0] at H
   by_cases c8 : x16_1 < (y218.length : Int)
   ·
    rw [if_pos c8] at H
    have c8b0 : decide (x16_1 < (y218.length : Int)) = true := decide_eq_true c8
    clear c8
    by_cases c9 : 0 ≤ x16_1
    ·
     rw [if_pos c9] at H
     have c9b0 : decide (0 ≤ x16_1) = true := decide_eq_true c9
     clear c9
     by_cases c10 : x16_1 < (y218.length : Int)
     ·
      rw [if_pos c10] at H
      have c10b0 : decide (x16_1 < (y218.length : Int)) = true := decide_eq_true c10
      clear c10
      replace H := Option.bind_eq_some_iff.mp H
      obtain ⟨⟨t222, t223, t224, t225, t226⟩, A110, H⟩ := H
      replace H : (if t226 = 0 then (if (Int.tmod t222 2) = (IntKind.u64.wrap (x16_1)) then (if x7_1 = 0 then (if t222 > x218000_1 then (meta_Choose.l0 k1 0 y218 (y218.length : Int) (wrap64 (x16_1 + 1)) t222 t223 t224 t225) else (meta_Choose.l0 k1 x7_1 y218 (y218.length : Int) (wrap64 (x16_1 + 1)) x218000_1 x218001_1 x218002_1 x218003_1)) else (meta_Choose.l0 k1 0 y218 (y218.length : Int) (wrap64 (x16_1 + 1)) t222 t223 t224 t225)) else (meta_Choose.l0 k1 x7_1 y218 (y218.length : Int) (wrap64 (x16_1 + 1)) x218000_1 x218001_1 x218002_1 x218003_1)) else (meta_Choose.l0 k1 x7_1 y218 (y218.length : Int) (wrap64 (x16_1 + 1)) x218000_1 x218001_1 x218002_1 x218003_1)) = some (r1, r2, r3, r4, r5) := H
      have A11 := Aside0.mk A110
      clear A110
      by_cases c12 : t226 = 0
      ·
       rw [if_pos c12] at H
       have c12b0 : (t226 == 0) = true := beq_iff_eq.mpr c12
       have c12b1 : (t226 != 0) = false := bne_eq_false_iff_eq.mpr c12
       clear c12
       by_cases c13 : (Int.tmod t222 2) = (IntKind.u64.wrap (x16_1))
       ·
        rw [if_pos c13] at H
        have c13b0 : ((Int.tmod t222 2) == (IntKind.u64.wrap (x16_1))) = true := beq_iff_eq.mpr c13
        have c13b1 : ((Int.tmod t222 2) != (IntKind.u64.wrap (x16_1))) = false := bne_eq_false_iff_eq.mpr c13
        clear c13
        by_cases c14 : x7_1 = 0
        ·
         rw [if_pos c14] at H
         have c14b0 : (x7_1 == 0) = true := beq_iff_eq.mpr c14
         have c14b1 : (x7_1 != 0) = false := bne_eq_false_iff_eq.mpr c14
         clear c14
         by_cases c15 : t222 > x218000_1
         ·
          rw [if_pos c15] at H
          have c15b0 : decide (x218000_1 < t222) = true := decide_eq_true c15
          clear c15
          have H' := Aside0.mk H
          clear H
          have p221 : 0 ≤ (x16_1 : Int) := of_decide_eq_true (by first | (with_reducible assumption) | assumption)
          have q221 : x16_1 < (y218.length : Int) := of_decide_eq_true (by first | (with_reducible assumption) | assumption)
          obtain ⟨ad221, A221_0, c221_0, e221, hx221_0, hl221_0, hi221_0⟩ := at_L2 (Kd.N_reads' HO_14.out).2.2 x16_1 p221 q221
          cases e221
          obtain ⟨ce221, hce221, hMe221, hcc221⟩ := Kd.N_get HO_14.out [] x16_1 p221 (by first | exact q221 | exact of_decide_eq_true (by first | (with_reducible assumption) | assumption) | (have e_ := (Kd.N_reads' HO_14.out).1; omega))
          obtain ⟨ua221_0, uc221_0, rfl, ul221_0, ge221_0⟩ := Kd.FK_slice_open hMe221
          have hv221_0 := hcc221 0 _ rfl
          rw [Nat.add_zero, show ((Kd.slice 5 (Kd.int .u8))).sz = 1 from rfl, Nat.mul_one] at hv221_0
          replace hv221_0 := Option.some.inj (hv221_0.symm.trans hx221_0)
          injection hv221_0 with hva_ hvn_ hvc_
          rw [hva_] at ge221_0
          rw [hvc_] at ul221_0
          have HL221_0 := Ext.a (show Kd.V (Kd.int .u8) 5 _ w.heap.size _ _ (rd_L2 y218 x16_1) from Kd.V_mk ul221_0 ge221_0)
          clear hva_ hvn_ hvc_ ge221_0 ul221_0
          clear hcc221 hce221
          have HR221_0 := Aside0.mk hi221_0
          have HC221_0 := Aside0.mk hl221_0
          clear hi221_0 hl221_0
          replace p221 := eq_true p221
          replace q221 := eq_true q221
          go_wp2_with (first | ((with_reducible refine gate_callee (f := 18) rfl ?_); refine goesL_ (some 23) rfl rfl Try.func18 (by kernel_rfl) rfl #[.slice A221_0 (rd_L2 y218 x16_1).length c221_0] rfl (by (try simp only [List.map_toArray, List.map_cons, List.map_nil]); first | done | rfl | (simp only [List.length_drop, List.length_take]; rfl)) ?_; (with_reducible refine (meta_Decode.calls k1 _ _ (rd_L2 y218 x16_1) t222 t223 t224 t225 t226 _ ?side1 ?side2 A11.out).mono ?_); (case side1 => repeat (first | exact (by repeat (first | (with_reducible exact HR221_0.out) | (with_reducible refine Kd.C_alloc ?_ _) | (with_reducible refine Kd.C_drewN ?_ _) | (with_reducible refine Kd.C_drew ?_) | exact HR221_0.out)) | (with_reducible refine Kd.C_alloc ?_ _) | (with_reducible refine Kd.C_drewN ?_ _) | (with_reducible refine Kd.C_drew ?_))); (case side2 => exact HC221_0.out); rintro e w16 ⟨rfl, hb⟩; refine ⟨_, rfl, ?_⟩; have n0_ := Ext.a (Kd.N_below (Ext.nN HO_14.out) hb); have n1_ := Ext.a (Kd.V_below (Ext.nV HL221_0.out) hb); have n2_ := Ext.a (blk_below BK216.out hb); have n3_ := Ext.a (blk_below BK217.out hb); have n4_ := Ext.a (Kd.C_below (by repeat (first | (with_reducible exact HR221_0.out) | (with_reducible refine Kd.C_alloc ?_ _) | (with_reducible refine Kd.C_drewN ?_ _) | (with_reducible refine Kd.C_drew ?_) | exact HR221_0.out)) hb); have n5_ := Ext.a (below_step (by repeat (first | (with_reducible first | exact HB.out | apply Ext.ba | apply Ext.bn | apply Ext.bd | refine Ext.bs ?_ GE216.out | refine Ext.bs ?_ GE217.out) | exact HB.out | exact .refl _ _)) hb); clear HO_14 HL221_0 BK216 BK217 HR221_0 HB; have HO_14 := n0_; have HL221_0 := n1_; have BK216 := n2_; have BK217 := n3_; have HR221_0 := n4_; have HB := n5_; clear n0_ n1_ n2_ n3_ n4_ n5_; (try clear hb); (try clear hb2); (try clear hk); (try clear hi)) | ((with_reducible refine gate_dst (N := 10) rfl ?_); refine box_event ?hg (N := 10) ?hd (cs := #[.int .u64 0, .int .i64 0, .int .i64 0, .int .i64 0]) (t := 24) ?hr ?_; (case hd => rfl); (case hg => rfl); (case hr => first | (go_simp; done) | (go_simp; rfl)); intro gb227 hg w17 hbox hb; have n0_ := Ext.a (Kd.N_below (Kd.N_elderB (Ext.nN HO_14.out) gb227 (Nat.le_of_eq hg.symm)) hb); have n1_ := Ext.a (Kd.V_below (Kd.V_elderB (Ext.nV HL221_0.out) gb227 (Nat.le_of_eq hg.symm)) hb); have n2_ := Ext.a (blk_below BK216.out hb); have n3_ := Ext.a (blk_below BK217.out hb); have n4_ := Ext.a (Kd.C_below (by repeat (first | (with_reducible exact HR221_0.out) | (with_reducible refine Kd.C_alloc ?_ _) | (with_reducible refine Kd.C_drewN ?_ _) | (with_reducible refine Kd.C_drew ?_) | exact HR221_0.out)) hb); have n5_ := Ext.a (below_step (by repeat (first | (with_reducible first | exact HB.out | apply Ext.ba | apply Ext.bn | apply Ext.bd | refine Ext.bs ?_ GE216.out | refine Ext.bs ?_ GE217.out) | exact HB.out | exact .refl _ _)) hb); have n6_ := Ext.a (hbox); have n7_ := Ext.a ((by rw [hg]; exact (below_size (by repeat (first | (with_reducible first | exact HB.out | apply Ext.ba | apply Ext.bn | apply Ext.bd | refine Ext.bs ?_ GE216.out | refine Ext.bs ?_ GE217.out) | exact HB.out | exact .refl _ _))) : w.heap.size ≤ gb227)); have n8_ := Ext.a ((by rw [hg]; exact (below_size (by repeat (first | (with_reducible first | exact HB.out | apply Ext.ba | apply Ext.bn | apply Ext.bd | refine Ext.bs ?_ GE216.out | refine Ext.bs ?_ GE217.out) | exact HB.out | exact .refl _ _))) : w.heap.size ≤ gb227)); have n9_ := Ext.a ((by rw [hg]; exact Nat.ne_of_lt (blk_lt BK216.out) : gb216 ≠ gb227)); have n10_ := Ext.a ((by rw [hg]; exact Nat.ne_of_gt (blk_lt BK216.out) : gb227 ≠ gb216)); have n11_ := Ext.a ((by rw [hg]; exact Nat.ne_of_lt (blk_lt BK217.out) : gb217 ≠ gb227)); have n12_ := Ext.a ((by rw [hg]; exact Nat.ne_of_gt (blk_lt BK217.out) : gb227 ≠ gb217)); clear HO_14 HL221_0 BK216 BK217 HR221_0 HB; have HO_14 := n0_; have HL221_0 := n1_; have BK216 := n2_; have BK217 := n3_; have HR221_0 := n4_; have HB := n5_; have BK227 := n6_; have GW227 := n7_; have GE227 := n8_; have NB216_227 := n9_; have NB227_216 := n10_; have NB217_227 := n11_; have NB227_217 := n12_; clear n0_ n1_ n2_ n3_ n4_ n5_ n6_ n7_ n8_ n9_ n10_ n11_ n12_; clear hb hbox hg; have hnb18 := NB227_216.out; have hnc18 := NB216_227.out; have hnb19 := NB227_217.out; have hnc19 := NB217_227.out; obtain ⟨hcz20_0, hcz20_1, hcz20_2, hcz20_3⟩ := Ext.cells4 BK227.out; obtain ⟨hfz20_0, hfz20_1, hfz20_2, hfz20_3⟩ := Ext.froz4 BK227.out; have hnb21 := NB217_216.out; have hnc21 := NB216_217.out; obtain ⟨hcz22_0, hcz22_1, hcz22_2, hcz22_3⟩ := Ext.cells4 BK217.out; obtain ⟨hfz22_0, hfz22_1, hfz22_2, hfz22_3⟩ := Ext.froz4 BK217.out))
          go_roundg k1
          case measure => have := HK1.out; omega
          case rel => exact ⟨(0), (wrap64 (x16_1 + 1)), (t222), (t223), (t224), (t225), (by first | rfl | (simp; done) | (simp [*]; done)), (by first | rfl | (simp; done) | (simp [*]; done)), H', ⟨by have := HK1.out; omega⟩, ⟨by (with_reducible repeat (first | apply Kd.N_alloc | apply Kd.N_drewN | apply Kd.N_drew)); exact Kd.N_mono (Kd.N_far (p := ⟨gb217, 3, none⟩) (Kd.N_far (p := ⟨gb217, 2, none⟩) (Kd.N_far (p := ⟨gb217, 1, none⟩) (Kd.N_far (p := ⟨gb217, 0, none⟩) (Kd.N_far (p := ⟨gb227, 3, none⟩) (Kd.N_far (p := ⟨gb227, 2, none⟩) (Kd.N_far (p := ⟨gb227, 1, none⟩) (Kd.N_far (p := ⟨gb227, 0, none⟩) (Kd.N_mono (Kd.N_mono HO_14.out (fun k_ hk => (⟨hk, hk.2⟩ : _ ∧ k_ ≠ gb227))) (fun k_ hk => (⟨hk, hk.1.1.2.2⟩ : _ ∧ k_ ≠ gb217))) (fun _ hk => hk.1.2) (.int .u64 t222)) (fun _ hk => hk.1.2) (.int .i64 t223)) (fun _ hk => hk.1.2) (.int .i64 t224)) (fun _ hk => hk.1.2) (.int .i64 t225)) (fun _ hk => hk.2) (.int .u64 t222)) (fun _ hk => hk.2) (.int .i64 t223)) (fun _ hk => hk.2) (.int .i64 t224)) (fun _ hk => hk.2) (.int .i64 t225)) (fun _ hk => ⟨hk.1.1.1.1, ⟨hk.1.1.1.2.1, hk.1.1.1.2.2⟩⟩)⟩, ⟨by refine blk_far ?_ NB216_217.out _; refine blk_far ?_ NB216_217.out _; refine blk_far ?_ NB216_217.out _; refine blk_far ?_ NB216_217.out _; refine blk_far ?_ NB216_227.out _; refine blk_far ?_ NB216_227.out _; refine blk_far ?_ NB216_227.out _; refine blk_far ?_ NB216_227.out _; exact BK216.out⟩, ⟨by refine blk_put (cs := #[.int .u64 t222, .int .i64 t223, .int .i64 t224, .int .i64 x218003_1]) ?_ 3 _ rfl; refine blk_put (cs := #[.int .u64 t222, .int .i64 t223, .int .i64 x218002_1, .int .i64 x218003_1]) ?_ 2 _ rfl; refine blk_put (cs := #[.int .u64 t222, .int .i64 x218001_1, .int .i64 x218002_1, .int .i64 x218003_1]) ?_ 1 _ rfl; refine blk_put (cs := #[.int .u64 x218000_1, .int .i64 x218001_1, .int .i64 x218002_1, .int .i64 x218003_1]) ?_ 0 _ rfl; refine blk_far ?_ NB217_227.out _; refine blk_far ?_ NB217_227.out _; refine blk_far ?_ NB217_227.out _; refine blk_far ?_ NB217_227.out _; exact BK217.out⟩, ⟨by repeat (first | (with_reducible first | exact HB.out | apply Ext.ba | apply Ext.bn | apply Ext.bd | refine Ext.bs ?_ GE216.out | refine Ext.bs ?_ GE217.out | refine Ext.bs ?_ GE227.out) | exact HB.out | exact .refl _ _)⟩⟩
         ·
          rw [if_neg c15] at H
          have c15b0 : decide (x218000_1 < t222) = false := decide_eq_false c15
          clear c15
          have H' := Aside0.mk H
          clear H
          have p221 : 0 ≤ (x16_1 : Int) := of_decide_eq_true (by first | (with_reducible assumption) | assumption)
          have q221 : x16_1 < (y218.length : Int) := of_decide_eq_true (by first | (with_reducible assumption) | assumption)
          obtain ⟨ad221, A221_0, c221_0, e221, hx221_0, hl221_0, hi221_0⟩ := at_L2 (Kd.N_reads' HO_14.out).2.2 x16_1 p221 q221
          cases e221
          obtain ⟨ce221, hce221, hMe221, hcc221⟩ := Kd.N_get HO_14.out [] x16_1 p221 (by first | exact q221 | exact of_decide_eq_true (by first | (with_reducible assumption) | assumption) | (have e_ := (Kd.N_reads' HO_14.out).1; omega))
          obtain ⟨ua221_0, uc221_0, rfl, ul221_0, ge221_0⟩ := Kd.FK_slice_open hMe221
          have hv221_0 := hcc221 0 _ rfl
          rw [Nat.add_zero, show ((Kd.slice 5 (Kd.int .u8))).sz = 1 from rfl, Nat.mul_one] at hv221_0
          replace hv221_0 := Option.some.inj (hv221_0.symm.trans hx221_0)
          injection hv221_0 with hva_ hvn_ hvc_
          rw [hva_] at ge221_0
          rw [hvc_] at ul221_0
          have HL221_0 := Ext.a (show Kd.V (Kd.int .u8) 5 _ w.heap.size _ _ (rd_L2 y218 x16_1) from Kd.V_mk ul221_0 ge221_0)
          clear hva_ hvn_ hvc_ ge221_0 ul221_0
          clear hcc221 hce221
          have HR221_0 := Aside0.mk hi221_0
          have HC221_0 := Aside0.mk hl221_0
          clear hi221_0 hl221_0
          replace p221 := eq_true p221
          replace q221 := eq_true q221
          go_wp2_with (first | ((with_reducible refine gate_callee (f := 18) rfl ?_); refine goesL_ (some 23) rfl rfl Try.func18 (by kernel_rfl) rfl #[.slice A221_0 (rd_L2 y218 x16_1).length c221_0] rfl (by (try simp only [List.map_toArray, List.map_cons, List.map_nil]); first | done | rfl | (simp only [List.length_drop, List.length_take]; rfl)) ?_; (with_reducible refine (meta_Decode.calls k1 _ _ (rd_L2 y218 x16_1) t222 t223 t224 t225 t226 _ ?side1 ?side2 A11.out).mono ?_); (case side1 => repeat (first | exact (by repeat (first | (with_reducible exact HR221_0.out) | (with_reducible refine Kd.C_alloc ?_ _) | (with_reducible refine Kd.C_drewN ?_ _) | (with_reducible refine Kd.C_drew ?_) | exact HR221_0.out)) | (with_reducible refine Kd.C_alloc ?_ _) | (with_reducible refine Kd.C_drewN ?_ _) | (with_reducible refine Kd.C_drew ?_))); (case side2 => exact HC221_0.out); rintro e w23 ⟨rfl, hb⟩; refine ⟨_, rfl, ?_⟩; have n0_ := Ext.a (Kd.N_below (Ext.nN HO_14.out) hb); have n1_ := Ext.a (Kd.V_below (Ext.nV HL221_0.out) hb); have n2_ := Ext.a (blk_below BK216.out hb); have n3_ := Ext.a (blk_below BK217.out hb); have n4_ := Ext.a (Kd.C_below (by repeat (first | (with_reducible exact HR221_0.out) | (with_reducible refine Kd.C_alloc ?_ _) | (with_reducible refine Kd.C_drewN ?_ _) | (with_reducible refine Kd.C_drew ?_) | exact HR221_0.out)) hb); have n5_ := Ext.a (below_step (by repeat (first | (with_reducible first | exact HB.out | apply Ext.ba | apply Ext.bn | apply Ext.bd | refine Ext.bs ?_ GE216.out | refine Ext.bs ?_ GE217.out) | exact HB.out | exact .refl _ _)) hb); clear HO_14 HL221_0 BK216 BK217 HR221_0 HB; have HO_14 := n0_; have HL221_0 := n1_; have BK216 := n2_; have BK217 := n3_; have HR221_0 := n4_; have HB := n5_; clear n0_ n1_ n2_ n3_ n4_ n5_; (try clear hb); (try clear hb2); (try clear hk); (try clear hi)) | ((with_reducible refine gate_dst (N := 10) rfl ?_); refine box_event ?hg (N := 10) ?hd (cs := #[.int .u64 0, .int .i64 0, .int .i64 0, .int .i64 0]) (t := 24) ?hr ?_; (case hd => rfl); (case hg => rfl); (case hr => first | (go_simp; done) | (go_simp; rfl)); intro gb227 hg w24 hbox hb; have n0_ := Ext.a (Kd.N_below (Kd.N_elderB (Ext.nN HO_14.out) gb227 (Nat.le_of_eq hg.symm)) hb); have n1_ := Ext.a (Kd.V_below (Kd.V_elderB (Ext.nV HL221_0.out) gb227 (Nat.le_of_eq hg.symm)) hb); have n2_ := Ext.a (blk_below BK216.out hb); have n3_ := Ext.a (blk_below BK217.out hb); have n4_ := Ext.a (Kd.C_below (by repeat (first | (with_reducible exact HR221_0.out) | (with_reducible refine Kd.C_alloc ?_ _) | (with_reducible refine Kd.C_drewN ?_ _) | (with_reducible refine Kd.C_drew ?_) | exact HR221_0.out)) hb); have n5_ := Ext.a (below_step (by repeat (first | (with_reducible first | exact HB.out | apply Ext.ba | apply Ext.bn | apply Ext.bd | refine Ext.bs ?_ GE216.out | refine Ext.bs ?_ GE217.out) | exact HB.out | exact .refl _ _)) hb); have n6_ := Ext.a (hbox); have n7_ := Ext.a ((by rw [hg]; exact (below_size (by repeat (first | (with_reducible first | exact HB.out | apply Ext.ba | apply Ext.bn | apply Ext.bd | refine Ext.bs ?_ GE216.out | refine Ext.bs ?_ GE217.out) | exact HB.out | exact .refl _ _))) : w.heap.size ≤ gb227)); have n8_ := Ext.a ((by rw [hg]; exact (below_size (by repeat (first | (with_reducible first | exact HB.out | apply Ext.ba | apply Ext.bn | apply Ext.bd | refine Ext.bs ?_ GE216.out | refine Ext.bs ?_ GE217.out) | exact HB.out | exact .refl _ _))) : w.heap.size ≤ gb227)); have n9_ := Ext.a ((by rw [hg]; exact Nat.ne_of_lt (blk_lt BK216.out) : gb216 ≠ gb227)); have n10_ := Ext.a ((by rw [hg]; exact Nat.ne_of_gt (blk_lt BK216.out) : gb227 ≠ gb216)); have n11_ := Ext.a ((by rw [hg]; exact Nat.ne_of_lt (blk_lt BK217.out) : gb217 ≠ gb227)); have n12_ := Ext.a ((by rw [hg]; exact Nat.ne_of_gt (blk_lt BK217.out) : gb227 ≠ gb217)); clear HO_14 HL221_0 BK216 BK217 HR221_0 HB; have HO_14 := n0_; have HL221_0 := n1_; have BK216 := n2_; have BK217 := n3_; have HR221_0 := n4_; have HB := n5_; have BK227 := n6_; have GW227 := n7_; have GE227 := n8_; have NB216_227 := n9_; have NB227_216 := n10_; have NB217_227 := n11_; have NB227_217 := n12_; clear n0_ n1_ n2_ n3_ n4_ n5_ n6_ n7_ n8_ n9_ n10_ n11_ n12_; clear hb hbox hg; have hnb25 := NB227_216.out; have hnc25 := NB216_227.out; have hnb26 := NB227_217.out; have hnc26 := NB217_227.out; obtain ⟨hcz27_0, hcz27_1, hcz27_2, hcz27_3⟩ := Ext.cells4 BK227.out; obtain ⟨hfz27_0, hfz27_1, hfz27_2, hfz27_3⟩ := Ext.froz4 BK227.out; have hnb28 := NB217_216.out; have hnc28 := NB216_217.out; obtain ⟨hcz29_0, hcz29_1, hcz29_2, hcz29_3⟩ := Ext.cells4 BK217.out; obtain ⟨hfz29_0, hfz29_1, hfz29_2, hfz29_3⟩ := Ext.froz4 BK217.out))
          go_roundg k1
          case measure => have := HK1.out; omega
          case rel => exact ⟨(x7_1), (wrap64 (x16_1 + 1)), (x218000_1), (x218001_1), (x218002_1), (x218003_1), (by first | rfl | (simp; done) | (simp [*]; done)), (by first | rfl | (simp; done) | (simp [*]; done)), H', ⟨by have := HK1.out; omega⟩, ⟨by (with_reducible repeat (first | apply Kd.N_alloc | apply Kd.N_drewN | apply Kd.N_drew)); exact Kd.N_mono (Kd.N_far (p := ⟨gb227, 3, none⟩) (Kd.N_far (p := ⟨gb227, 2, none⟩) (Kd.N_far (p := ⟨gb227, 1, none⟩) (Kd.N_far (p := ⟨gb227, 0, none⟩) (Kd.N_mono HO_14.out (fun k_ hk => (⟨hk, hk.2⟩ : _ ∧ k_ ≠ gb227))) (fun _ hk => hk.2) (.int .u64 t222)) (fun _ hk => hk.2) (.int .i64 t223)) (fun _ hk => hk.2) (.int .i64 t224)) (fun _ hk => hk.2) (.int .i64 t225)) (fun _ hk => ⟨hk.1.1.1, ⟨hk.1.1.2.1, hk.1.1.2.2⟩⟩)⟩, ⟨by refine blk_far ?_ NB216_227.out _; refine blk_far ?_ NB216_227.out _; refine blk_far ?_ NB216_227.out _; refine blk_far ?_ NB216_227.out _; exact BK216.out⟩, ⟨by refine blk_far ?_ NB217_227.out _; refine blk_far ?_ NB217_227.out _; refine blk_far ?_ NB217_227.out _; refine blk_far ?_ NB217_227.out _; exact BK217.out⟩, ⟨by repeat (first | (with_reducible first | exact HB.out | apply Ext.ba | apply Ext.bn | apply Ext.bd | refine Ext.bs ?_ GE216.out | refine Ext.bs ?_ GE217.out | refine Ext.bs ?_ GE227.out) | exact HB.out | exact .refl _ _)⟩⟩
        ·
         rw [if_neg c14] at H
         have c14b0 : (x7_1 == 0) = false := beq_eq_false_iff_ne.mpr c14
         have c14b1 : (x7_1 != 0) = true := bne_iff_ne.mpr c14
         have H' := Aside0.mk H
         clear H
         have p221 : 0 ≤ (x16_1 : Int) := of_decide_eq_true (by first | (with_reducible assumption) | assumption)
         have q221 : x16_1 < (y218.length : Int) := of_decide_eq_true (by first | (with_reducible assumption) | assumption)
         obtain ⟨ad221, A221_0, c221_0, e221, hx221_0, hl221_0, hi221_0⟩ := at_L2 (Kd.N_reads' HO_14.out).2.2 x16_1 p221 q221
         cases e221
         obtain ⟨ce221, hce221, hMe221, hcc221⟩ := Kd.N_get HO_14.out [] x16_1 p221 (by first | exact q221 | exact of_decide_eq_true (by first | (with_reducible assumption) | assumption) | (have e_ := (Kd.N_reads' HO_14.out).1; omega))
         obtain ⟨ua221_0, uc221_0, rfl, ul221_0, ge221_0⟩ := Kd.FK_slice_open hMe221
         have hv221_0 := hcc221 0 _ rfl
         rw [Nat.add_zero, show ((Kd.slice 5 (Kd.int .u8))).sz = 1 from rfl, Nat.mul_one] at hv221_0
         replace hv221_0 := Option.some.inj (hv221_0.symm.trans hx221_0)
         injection hv221_0 with hva_ hvn_ hvc_
         rw [hva_] at ge221_0
         rw [hvc_] at ul221_0
         have HL221_0 := Ext.a (show Kd.V (Kd.int .u8) 5 _ w.heap.size _ _ (rd_L2 y218 x16_1) from Kd.V_mk ul221_0 ge221_0)
         clear hva_ hvn_ hvc_ ge221_0 ul221_0
         clear hcc221 hce221
         have HR221_0 := Aside0.mk hi221_0
         have HC221_0 := Aside0.mk hl221_0
         clear hi221_0 hl221_0
         replace p221 := eq_true p221
         replace q221 := eq_true q221
         go_wp2_with (first | ((with_reducible refine gate_callee (f := 18) rfl ?_); refine goesL_ (some 23) rfl rfl Try.func18 (by kernel_rfl) rfl #[.slice A221_0 (rd_L2 y218 x16_1).length c221_0] rfl (by (try simp only [List.map_toArray, List.map_cons, List.map_nil]); first | done | rfl | (simp only [List.length_drop, List.length_take]; rfl)) ?_; (with_reducible refine (meta_Decode.calls k1 _ _ (rd_L2 y218 x16_1) t222 t223 t224 t225 t226 _ ?side1 ?side2 A11.out).mono ?_); (case side1 => repeat (first | exact (by repeat (first | (with_reducible exact HR221_0.out) | (with_reducible refine Kd.C_alloc ?_ _) | (with_reducible refine Kd.C_drewN ?_ _) | (with_reducible refine Kd.C_drew ?_) | exact HR221_0.out)) | (with_reducible refine Kd.C_alloc ?_ _) | (with_reducible refine Kd.C_drewN ?_ _) | (with_reducible refine Kd.C_drew ?_))); (case side2 => exact HC221_0.out); rintro e w30 ⟨rfl, hb⟩; refine ⟨_, rfl, ?_⟩; have n0_ := Ext.a (Kd.N_below (Ext.nN HO_14.out) hb); have n1_ := Ext.a (Kd.V_below (Ext.nV HL221_0.out) hb); have n2_ := Ext.a (blk_below BK216.out hb); have n3_ := Ext.a (blk_below BK217.out hb); have n4_ := Ext.a (Kd.C_below (by repeat (first | (with_reducible exact HR221_0.out) | (with_reducible refine Kd.C_alloc ?_ _) | (with_reducible refine Kd.C_drewN ?_ _) | (with_reducible refine Kd.C_drew ?_) | exact HR221_0.out)) hb); have n5_ := Ext.a (below_step (by repeat (first | (with_reducible first | exact HB.out | apply Ext.ba | apply Ext.bn | apply Ext.bd | refine Ext.bs ?_ GE216.out | refine Ext.bs ?_ GE217.out) | exact HB.out | exact .refl _ _)) hb); clear HO_14 HL221_0 BK216 BK217 HR221_0 HB; have HO_14 := n0_; have HL221_0 := n1_; have BK216 := n2_; have BK217 := n3_; have HR221_0 := n4_; have HB := n5_; clear n0_ n1_ n2_ n3_ n4_ n5_; (try clear hb); (try clear hb2); (try clear hk); (try clear hi)) | ((with_reducible refine gate_dst (N := 10) rfl ?_); refine box_event ?hg (N := 10) ?hd (cs := #[.int .u64 0, .int .i64 0, .int .i64 0, .int .i64 0]) (t := 24) ?hr ?_; (case hd => rfl); (case hg => rfl); (case hr => first | (go_simp; done) | (go_simp; rfl)); intro gb227 hg w31 hbox hb; have n0_ := Ext.a (Kd.N_below (Kd.N_elderB (Ext.nN HO_14.out) gb227 (Nat.le_of_eq hg.symm)) hb); have n1_ := Ext.a (Kd.V_below (Kd.V_elderB (Ext.nV HL221_0.out) gb227 (Nat.le_of_eq hg.symm)) hb); have n2_ := Ext.a (blk_below BK216.out hb); have n3_ := Ext.a (blk_below BK217.out hb); have n4_ := Ext.a (Kd.C_below (by repeat (first | (with_reducible exact HR221_0.out) | (with_reducible refine Kd.C_alloc ?_ _) | (with_reducible refine Kd.C_drewN ?_ _) | (with_reducible refine Kd.C_drew ?_) | exact HR221_0.out)) hb); have n5_ := Ext.a (below_step (by repeat (first | (with_reducible first | exact HB.out | apply Ext.ba | apply Ext.bn | apply Ext.bd | refine Ext.bs ?_ GE216.out | refine Ext.bs ?_ GE217.out) | exact HB.out | exact .refl _ _)) hb); have n6_ := Ext.a (hbox); have n7_ := Ext.a ((by rw [hg]; exact (below_size (by repeat (first | (with_reducible first | exact HB.out | apply Ext.ba | apply Ext.bn | apply Ext.bd | refine Ext.bs ?_ GE216.out | refine Ext.bs ?_ GE217.out) | exact HB.out | exact .refl _ _))) : w.heap.size ≤ gb227)); have n8_ := Ext.a ((by rw [hg]; exact (below_size (by repeat (first | (with_reducible first | exact HB.out | apply Ext.ba | apply Ext.bn | apply Ext.bd | refine Ext.bs ?_ GE216.out | refine Ext.bs ?_ GE217.out) | exact HB.out | exact .refl _ _))) : w.heap.size ≤ gb227)); have n9_ := Ext.a ((by rw [hg]; exact Nat.ne_of_lt (blk_lt BK216.out) : gb216 ≠ gb227)); have n10_ := Ext.a ((by rw [hg]; exact Nat.ne_of_gt (blk_lt BK216.out) : gb227 ≠ gb216)); have n11_ := Ext.a ((by rw [hg]; exact Nat.ne_of_lt (blk_lt BK217.out) : gb217 ≠ gb227)); have n12_ := Ext.a ((by rw [hg]; exact Nat.ne_of_gt (blk_lt BK217.out) : gb227 ≠ gb217)); clear HO_14 HL221_0 BK216 BK217 HR221_0 HB; have HO_14 := n0_; have HL221_0 := n1_; have BK216 := n2_; have BK217 := n3_; have HR221_0 := n4_; have HB := n5_; have BK227 := n6_; have GW227 := n7_; have GE227 := n8_; have NB216_227 := n9_; have NB227_216 := n10_; have NB217_227 := n11_; have NB227_217 := n12_; clear n0_ n1_ n2_ n3_ n4_ n5_ n6_ n7_ n8_ n9_ n10_ n11_ n12_; clear hb hbox hg; have hnb32 := NB227_216.out; have hnc32 := NB216_227.out; have hnb33 := NB227_217.out; have hnc33 := NB217_227.out; obtain ⟨hcz34_0, hcz34_1, hcz34_2, hcz34_3⟩ := Ext.cells4 BK227.out; obtain ⟨hfz34_0, hfz34_1, hfz34_2, hfz34_3⟩ := Ext.froz4 BK227.out; have hnb35 := NB217_216.out; have hnc35 := NB216_217.out; obtain ⟨hcz36_0, hcz36_1, hcz36_2, hcz36_3⟩ := Ext.cells4 BK217.out; obtain ⟨hfz36_0, hfz36_1, hfz36_2, hfz36_3⟩ := Ext.froz4 BK217.out))
         go_roundg k1
         case measure => have := HK1.out; omega
         case rel => exact ⟨(0), (wrap64 (x16_1 + 1)), (t222), (t223), (t224), (t225), (by first | rfl | (simp; done) | (simp [*]; done)), (by first | rfl | (simp; done) | (simp [*]; done)), H', ⟨by have := HK1.out; omega⟩, ⟨by (with_reducible repeat (first | apply Kd.N_alloc | apply Kd.N_drewN | apply Kd.N_drew)); exact Kd.N_mono (Kd.N_far (p := ⟨gb217, 3, none⟩) (Kd.N_far (p := ⟨gb217, 2, none⟩) (Kd.N_far (p := ⟨gb217, 1, none⟩) (Kd.N_far (p := ⟨gb217, 0, none⟩) (Kd.N_far (p := ⟨gb227, 3, none⟩) (Kd.N_far (p := ⟨gb227, 2, none⟩) (Kd.N_far (p := ⟨gb227, 1, none⟩) (Kd.N_far (p := ⟨gb227, 0, none⟩) (Kd.N_mono (Kd.N_mono HO_14.out (fun k_ hk => (⟨hk, hk.2⟩ : _ ∧ k_ ≠ gb227))) (fun k_ hk => (⟨hk, hk.1.1.2.2⟩ : _ ∧ k_ ≠ gb217))) (fun _ hk => hk.1.2) (.int .u64 t222)) (fun _ hk => hk.1.2) (.int .i64 t223)) (fun _ hk => hk.1.2) (.int .i64 t224)) (fun _ hk => hk.1.2) (.int .i64 t225)) (fun _ hk => hk.2) (.int .u64 t222)) (fun _ hk => hk.2) (.int .i64 t223)) (fun _ hk => hk.2) (.int .i64 t224)) (fun _ hk => hk.2) (.int .i64 t225)) (fun _ hk => ⟨hk.1.1.1.1, ⟨hk.1.1.1.2.1, hk.1.1.1.2.2⟩⟩)⟩, ⟨by refine blk_far ?_ NB216_217.out _; refine blk_far ?_ NB216_217.out _; refine blk_far ?_ NB216_217.out _; refine blk_far ?_ NB216_217.out _; refine blk_far ?_ NB216_227.out _; refine blk_far ?_ NB216_227.out _; refine blk_far ?_ NB216_227.out _; refine blk_far ?_ NB216_227.out _; exact BK216.out⟩, ⟨by refine blk_put (cs := #[.int .u64 t222, .int .i64 t223, .int .i64 t224, .int .i64 x218003_1]) ?_ 3 _ rfl; refine blk_put (cs := #[.int .u64 t222, .int .i64 t223, .int .i64 x218002_1, .int .i64 x218003_1]) ?_ 2 _ rfl; refine blk_put (cs := #[.int .u64 t222, .int .i64 x218001_1, .int .i64 x218002_1, .int .i64 x218003_1]) ?_ 1 _ rfl; refine blk_put (cs := #[.int .u64 x218000_1, .int .i64 x218001_1, .int .i64 x218002_1, .int .i64 x218003_1]) ?_ 0 _ rfl; refine blk_far ?_ NB217_227.out _; refine blk_far ?_ NB217_227.out _; refine blk_far ?_ NB217_227.out _; refine blk_far ?_ NB217_227.out _; exact BK217.out⟩, ⟨by repeat (first | (with_reducible first | exact HB.out | apply Ext.ba | apply Ext.bn | apply Ext.bd | refine Ext.bs ?_ GE216.out | refine Ext.bs ?_ GE217.out | refine Ext.bs ?_ GE227.out) | exact HB.out | exact .refl _ _)⟩⟩
       ·
        rw [if_neg c13] at H
        have c13b0 : ((Int.tmod t222 2) == (IntKind.u64.wrap (x16_1))) = false := beq_eq_false_iff_ne.mpr c13
        have c13b1 : ((Int.tmod t222 2) != (IntKind.u64.wrap (x16_1))) = true := bne_iff_ne.mpr c13
        have H' := Aside0.mk H
        clear H
        have p221 : 0 ≤ (x16_1 : Int) := of_decide_eq_true (by first | (with_reducible assumption) | assumption)
        have q221 : x16_1 < (y218.length : Int) := of_decide_eq_true (by first | (with_reducible assumption) | assumption)
        obtain ⟨ad221, A221_0, c221_0, e221, hx221_0, hl221_0, hi221_0⟩ := at_L2 (Kd.N_reads' HO_14.out).2.2 x16_1 p221 q221
        cases e221
        obtain ⟨ce221, hce221, hMe221, hcc221⟩ := Kd.N_get HO_14.out [] x16_1 p221 (by first | exact q221 | exact of_decide_eq_true (by first | (with_reducible assumption) | assumption) | (have e_ := (Kd.N_reads' HO_14.out).1; omega))
        obtain ⟨ua221_0, uc221_0, rfl, ul221_0, ge221_0⟩ := Kd.FK_slice_open hMe221
        have hv221_0 := hcc221 0 _ rfl
        rw [Nat.add_zero, show ((Kd.slice 5 (Kd.int .u8))).sz = 1 from rfl, Nat.mul_one] at hv221_0
        replace hv221_0 := Option.some.inj (hv221_0.symm.trans hx221_0)
        injection hv221_0 with hva_ hvn_ hvc_
        rw [hva_] at ge221_0
        rw [hvc_] at ul221_0
        have HL221_0 := Ext.a (show Kd.V (Kd.int .u8) 5 _ w.heap.size _ _ (rd_L2 y218 x16_1) from Kd.V_mk ul221_0 ge221_0)
        clear hva_ hvn_ hvc_ ge221_0 ul221_0
        clear hcc221 hce221
        have HR221_0 := Aside0.mk hi221_0
        have HC221_0 := Aside0.mk hl221_0
        clear hi221_0 hl221_0
        replace p221 := eq_true p221
        replace q221 := eq_true q221
        go_wp2_with (first | ((with_reducible refine gate_callee (f := 18) rfl ?_); refine goesL_ (some 23) rfl rfl Try.func18 (by kernel_rfl) rfl #[.slice A221_0 (rd_L2 y218 x16_1).length c221_0] rfl (by (try simp only [List.map_toArray, List.map_cons, List.map_nil]); first | done | rfl | (simp only [List.length_drop, List.length_take]; rfl)) ?_; (with_reducible refine (meta_Decode.calls k1 _ _ (rd_L2 y218 x16_1) t222 t223 t224 t225 t226 _ ?side1 ?side2 A11.out).mono ?_); (case side1 => repeat (first | exact (by repeat (first | (with_reducible exact HR221_0.out) | (with_reducible refine Kd.C_alloc ?_ _) | (with_reducible refine Kd.C_drewN ?_ _) | (with_reducible refine Kd.C_drew ?_) | exact HR221_0.out)) | (with_reducible refine Kd.C_alloc ?_ _) | (with_reducible refine Kd.C_drewN ?_ _) | (with_reducible refine Kd.C_drew ?_))); (case side2 => exact HC221_0.out); rintro e w37 ⟨rfl, hb⟩; refine ⟨_, rfl, ?_⟩; have n0_ := Ext.a (Kd.N_below (Ext.nN HO_14.out) hb); have n1_ := Ext.a (Kd.V_below (Ext.nV HL221_0.out) hb); have n2_ := Ext.a (blk_below BK216.out hb); have n3_ := Ext.a (blk_below BK217.out hb); have n4_ := Ext.a (Kd.C_below (by repeat (first | (with_reducible exact HR221_0.out) | (with_reducible refine Kd.C_alloc ?_ _) | (with_reducible refine Kd.C_drewN ?_ _) | (with_reducible refine Kd.C_drew ?_) | exact HR221_0.out)) hb); have n5_ := Ext.a (below_step (by repeat (first | (with_reducible first | exact HB.out | apply Ext.ba | apply Ext.bn | apply Ext.bd | refine Ext.bs ?_ GE216.out | refine Ext.bs ?_ GE217.out) | exact HB.out | exact .refl _ _)) hb); clear HO_14 HL221_0 BK216 BK217 HR221_0 HB; have HO_14 := n0_; have HL221_0 := n1_; have BK216 := n2_; have BK217 := n3_; have HR221_0 := n4_; have HB := n5_; clear n0_ n1_ n2_ n3_ n4_ n5_; (try clear hb); (try clear hb2); (try clear hk); (try clear hi)) | ((with_reducible refine gate_dst (N := 10) rfl ?_); refine box_event ?hg (N := 10) ?hd (cs := #[.int .u64 0, .int .i64 0, .int .i64 0, .int .i64 0]) (t := 24) ?hr ?_; (case hd => rfl); (case hg => rfl); (case hr => first | (go_simp; done) | (go_simp; rfl)); intro gb227 hg w38 hbox hb; have n0_ := Ext.a (Kd.N_below (Kd.N_elderB (Ext.nN HO_14.out) gb227 (Nat.le_of_eq hg.symm)) hb); have n1_ := Ext.a (Kd.V_below (Kd.V_elderB (Ext.nV HL221_0.out) gb227 (Nat.le_of_eq hg.symm)) hb); have n2_ := Ext.a (blk_below BK216.out hb); have n3_ := Ext.a (blk_below BK217.out hb); have n4_ := Ext.a (Kd.C_below (by repeat (first | (with_reducible exact HR221_0.out) | (with_reducible refine Kd.C_alloc ?_ _) | (with_reducible refine Kd.C_drewN ?_ _) | (with_reducible refine Kd.C_drew ?_) | exact HR221_0.out)) hb); have n5_ := Ext.a (below_step (by repeat (first | (with_reducible first | exact HB.out | apply Ext.ba | apply Ext.bn | apply Ext.bd | refine Ext.bs ?_ GE216.out | refine Ext.bs ?_ GE217.out) | exact HB.out | exact .refl _ _)) hb); have n6_ := Ext.a (hbox); have n7_ := Ext.a ((by rw [hg]; exact (below_size (by repeat (first | (with_reducible first | exact HB.out | apply Ext.ba | apply Ext.bn | apply Ext.bd | refine Ext.bs ?_ GE216.out | refine Ext.bs ?_ GE217.out) | exact HB.out | exact .refl _ _))) : w.heap.size ≤ gb227)); have n8_ := Ext.a ((by rw [hg]; exact (below_size (by repeat (first | (with_reducible first | exact HB.out | apply Ext.ba | apply Ext.bn | apply Ext.bd | refine Ext.bs ?_ GE216.out | refine Ext.bs ?_ GE217.out) | exact HB.out | exact .refl _ _))) : w.heap.size ≤ gb227)); have n9_ := Ext.a ((by rw [hg]; exact Nat.ne_of_lt (blk_lt BK216.out) : gb216 ≠ gb227)); have n10_ := Ext.a ((by rw [hg]; exact Nat.ne_of_gt (blk_lt BK216.out) : gb227 ≠ gb216)); have n11_ := Ext.a ((by rw [hg]; exact Nat.ne_of_lt (blk_lt BK217.out) : gb217 ≠ gb227)); have n12_ := Ext.a ((by rw [hg]; exact Nat.ne_of_gt (blk_lt BK217.out) : gb227 ≠ gb217)); clear HO_14 HL221_0 BK216 BK217 HR221_0 HB; have HO_14 := n0_; have HL221_0 := n1_; have BK216 := n2_; have BK217 := n3_; have HR221_0 := n4_; have HB := n5_; have BK227 := n6_; have GW227 := n7_; have GE227 := n8_; have NB216_227 := n9_; have NB227_216 := n10_; have NB217_227 := n11_; have NB227_217 := n12_; clear n0_ n1_ n2_ n3_ n4_ n5_ n6_ n7_ n8_ n9_ n10_ n11_ n12_; clear hb hbox hg; have hnb39 := NB227_216.out; have hnc39 := NB216_227.out; have hnb40 := NB227_217.out; have hnc40 := NB217_227.out; obtain ⟨hcz41_0, hcz41_1, hcz41_2, hcz41_3⟩ := Ext.cells4 BK227.out; obtain ⟨hfz41_0, hfz41_1, hfz41_2, hfz41_3⟩ := Ext.froz4 BK227.out))
        go_roundg k1
        case measure => have := HK1.out; omega
        case rel => exact ⟨(x7_1), (wrap64 (x16_1 + 1)), (x218000_1), (x218001_1), (x218002_1), (x218003_1), (by first | rfl | (simp; done) | (simp [*]; done)), (by first | rfl | (simp; done) | (simp [*]; done)), H', ⟨by have := HK1.out; omega⟩, ⟨by (with_reducible repeat (first | apply Kd.N_alloc | apply Kd.N_drewN | apply Kd.N_drew)); exact Kd.N_mono (Kd.N_far (p := ⟨gb227, 3, none⟩) (Kd.N_far (p := ⟨gb227, 2, none⟩) (Kd.N_far (p := ⟨gb227, 1, none⟩) (Kd.N_far (p := ⟨gb227, 0, none⟩) (Kd.N_mono HO_14.out (fun k_ hk => (⟨hk, hk.2⟩ : _ ∧ k_ ≠ gb227))) (fun _ hk => hk.2) (.int .u64 t222)) (fun _ hk => hk.2) (.int .i64 t223)) (fun _ hk => hk.2) (.int .i64 t224)) (fun _ hk => hk.2) (.int .i64 t225)) (fun _ hk => ⟨hk.1.1.1, ⟨hk.1.1.2.1, hk.1.1.2.2⟩⟩)⟩, ⟨by refine blk_far ?_ NB216_227.out _; refine blk_far ?_ NB216_227.out _; refine blk_far ?_ NB216_227.out _; refine blk_far ?_ NB216_227.out _; exact BK216.out⟩, ⟨by refine blk_far ?_ NB217_227.out _; refine blk_far ?_ NB217_227.out _; refine blk_far ?_ NB217_227.out _; refine blk_far ?_ NB217_227.out _; exact BK217.out⟩, ⟨by repeat (first | (with_reducible first | exact HB.out | apply Ext.ba | apply Ext.bn | apply Ext.bd | refine Ext.bs ?_ GE216.out | refine Ext.bs ?_ GE217.out | refine Ext.bs ?_ GE227.out) | exact HB.out | exact .refl _ _)⟩⟩
      ·
       rw [if_neg c12] at H
       have c12b0 : (t226 == 0) = false := beq_eq_false_iff_ne.mpr c12
       have c12b1 : (t226 != 0) = true := bne_iff_ne.mpr c12
       have H' := Aside0.mk H
       clear H
       have p221 : 0 ≤ (x16_1 : Int) := of_decide_eq_true (by first | (with_reducible assumption) | assumption)
       have q221 : x16_1 < (y218.length : Int) := of_decide_eq_true (by first | (with_reducible assumption) | assumption)
       obtain ⟨ad221, A221_0, c221_0, e221, hx221_0, hl221_0, hi221_0⟩ := at_L2 (Kd.N_reads' HO_14.out).2.2 x16_1 p221 q221
       cases e221
       obtain ⟨ce221, hce221, hMe221, hcc221⟩ := Kd.N_get HO_14.out [] x16_1 p221 (by first | exact q221 | exact of_decide_eq_true (by first | (with_reducible assumption) | assumption) | (have e_ := (Kd.N_reads' HO_14.out).1; omega))
       obtain ⟨ua221_0, uc221_0, rfl, ul221_0, ge221_0⟩ := Kd.FK_slice_open hMe221
       have hv221_0 := hcc221 0 _ rfl
       rw [Nat.add_zero, show ((Kd.slice 5 (Kd.int .u8))).sz = 1 from rfl, Nat.mul_one] at hv221_0
       replace hv221_0 := Option.some.inj (hv221_0.symm.trans hx221_0)
       injection hv221_0 with hva_ hvn_ hvc_
       rw [hva_] at ge221_0
       rw [hvc_] at ul221_0
       have HL221_0 := Ext.a (show Kd.V (Kd.int .u8) 5 _ w.heap.size _ _ (rd_L2 y218 x16_1) from Kd.V_mk ul221_0 ge221_0)
       clear hva_ hvn_ hvc_ ge221_0 ul221_0
       clear hcc221 hce221
       have HR221_0 := Aside0.mk hi221_0
       have HC221_0 := Aside0.mk hl221_0
       clear hi221_0 hl221_0
       replace p221 := eq_true p221
       replace q221 := eq_true q221
       go_wp2_with (first | ((with_reducible refine gate_callee (f := 18) rfl ?_); refine goesL_ (some 23) rfl rfl Try.func18 (by kernel_rfl) rfl #[.slice A221_0 (rd_L2 y218 x16_1).length c221_0] rfl (by (try simp only [List.map_toArray, List.map_cons, List.map_nil]); first | done | rfl | (simp only [List.length_drop, List.length_take]; rfl)) ?_; (with_reducible refine (meta_Decode.calls k1 _ _ (rd_L2 y218 x16_1) t222 t223 t224 t225 t226 _ ?side1 ?side2 A11.out).mono ?_); (case side1 => repeat (first | exact (by repeat (first | (with_reducible exact HR221_0.out) | (with_reducible refine Kd.C_alloc ?_ _) | (with_reducible refine Kd.C_drewN ?_ _) | (with_reducible refine Kd.C_drew ?_) | exact HR221_0.out)) | (with_reducible refine Kd.C_alloc ?_ _) | (with_reducible refine Kd.C_drewN ?_ _) | (with_reducible refine Kd.C_drew ?_))); (case side2 => exact HC221_0.out); rintro e w42 ⟨rfl, hb⟩; refine ⟨_, rfl, ?_⟩; have n0_ := Ext.a (Kd.N_below (Ext.nN HO_14.out) hb); have n1_ := Ext.a (Kd.V_below (Ext.nV HL221_0.out) hb); have n2_ := Ext.a (blk_below BK216.out hb); have n3_ := Ext.a (blk_below BK217.out hb); have n4_ := Ext.a (Kd.C_below (by repeat (first | (with_reducible exact HR221_0.out) | (with_reducible refine Kd.C_alloc ?_ _) | (with_reducible refine Kd.C_drewN ?_ _) | (with_reducible refine Kd.C_drew ?_) | exact HR221_0.out)) hb); have n5_ := Ext.a (below_step (by repeat (first | (with_reducible first | exact HB.out | apply Ext.ba | apply Ext.bn | apply Ext.bd | refine Ext.bs ?_ GE216.out | refine Ext.bs ?_ GE217.out) | exact HB.out | exact .refl _ _)) hb); clear HO_14 HL221_0 BK216 BK217 HR221_0 HB; have HO_14 := n0_; have HL221_0 := n1_; have BK216 := n2_; have BK217 := n3_; have HR221_0 := n4_; have HB := n5_; clear n0_ n1_ n2_ n3_ n4_ n5_; (try clear hb); (try clear hb2); (try clear hk); (try clear hi)) | ((with_reducible refine gate_dst (N := 10) rfl ?_); refine box_event ?hg (N := 10) ?hd (cs := #[.int .u64 0, .int .i64 0, .int .i64 0, .int .i64 0]) (t := 24) ?hr ?_; (case hd => rfl); (case hg => rfl); (case hr => first | (go_simp; done) | (go_simp; rfl)); intro gb227 hg w43 hbox hb; have n0_ := Ext.a (Kd.N_below (Kd.N_elderB (Ext.nN HO_14.out) gb227 (Nat.le_of_eq hg.symm)) hb); have n1_ := Ext.a (Kd.V_below (Kd.V_elderB (Ext.nV HL221_0.out) gb227 (Nat.le_of_eq hg.symm)) hb); have n2_ := Ext.a (blk_below BK216.out hb); have n3_ := Ext.a (blk_below BK217.out hb); have n4_ := Ext.a (Kd.C_below (by repeat (first | (with_reducible exact HR221_0.out) | (with_reducible refine Kd.C_alloc ?_ _) | (with_reducible refine Kd.C_drewN ?_ _) | (with_reducible refine Kd.C_drew ?_) | exact HR221_0.out)) hb); have n5_ := Ext.a (below_step (by repeat (first | (with_reducible first | exact HB.out | apply Ext.ba | apply Ext.bn | apply Ext.bd | refine Ext.bs ?_ GE216.out | refine Ext.bs ?_ GE217.out) | exact HB.out | exact .refl _ _)) hb); have n6_ := Ext.a (hbox); have n7_ := Ext.a ((by rw [hg]; exact (below_size (by repeat (first | (with_reducible first | exact HB.out | apply Ext.ba | apply Ext.bn | apply Ext.bd | refine Ext.bs ?_ GE216.out | refine Ext.bs ?_ GE217.out) | exact HB.out | exact .refl _ _))) : w.heap.size ≤ gb227)); have n8_ := Ext.a ((by rw [hg]; exact (below_size (by repeat (first | (with_reducible first | exact HB.out | apply Ext.ba | apply Ext.bn | apply Ext.bd | refine Ext.bs ?_ GE216.out | refine Ext.bs ?_ GE217.out) | exact HB.out | exact .refl _ _))) : w.heap.size ≤ gb227)); have n9_ := Ext.a ((by rw [hg]; exact Nat.ne_of_lt (blk_lt BK216.out) : gb216 ≠ gb227)); have n10_ := Ext.a ((by rw [hg]; exact Nat.ne_of_gt (blk_lt BK216.out) : gb227 ≠ gb216)); have n11_ := Ext.a ((by rw [hg]; exact Nat.ne_of_lt (blk_lt BK217.out) : gb217 ≠ gb227)); have n12_ := Ext.a ((by rw [hg]; exact Nat.ne_of_gt (blk_lt BK217.out) : gb227 ≠ gb217)); clear HO_14 HL221_0 BK216 BK217 HR221_0 HB; have HO_14 := n0_; have HL221_0 := n1_; have BK216 := n2_; have BK217 := n3_; have HR221_0 := n4_; have HB := n5_; have BK227 := n6_; have GW227 := n7_; have GE227 := n8_; have NB216_227 := n9_; have NB227_216 := n10_; have NB217_227 := n11_; have NB227_217 := n12_; clear n0_ n1_ n2_ n3_ n4_ n5_ n6_ n7_ n8_ n9_ n10_ n11_ n12_; clear hb hbox hg; have hnb44 := NB227_216.out; have hnc44 := NB216_227.out; have hnb45 := NB227_217.out; have hnc45 := NB217_227.out; obtain ⟨hcz46_0, hcz46_1, hcz46_2, hcz46_3⟩ := Ext.cells4 BK227.out; obtain ⟨hfz46_0, hfz46_1, hfz46_2, hfz46_3⟩ := Ext.froz4 BK227.out))
       go_roundg k1
       case measure => have := HK1.out; omega
       case rel => exact ⟨(x7_1), (wrap64 (x16_1 + 1)), (x218000_1), (x218001_1), (x218002_1), (x218003_1), (by first | rfl | (simp; done) | (simp [*]; done)), (by first | rfl | (simp; done) | (simp [*]; done)), H', ⟨by have := HK1.out; omega⟩, ⟨by (with_reducible repeat (first | apply Kd.N_alloc | apply Kd.N_drewN | apply Kd.N_drew)); exact Kd.N_mono (Kd.N_far (p := ⟨gb227, 3, none⟩) (Kd.N_far (p := ⟨gb227, 2, none⟩) (Kd.N_far (p := ⟨gb227, 1, none⟩) (Kd.N_far (p := ⟨gb227, 0, none⟩) (Kd.N_mono HO_14.out (fun k_ hk => (⟨hk, hk.2⟩ : _ ∧ k_ ≠ gb227))) (fun _ hk => hk.2) (.int .u64 t222)) (fun _ hk => hk.2) (.int .i64 t223)) (fun _ hk => hk.2) (.int .i64 t224)) (fun _ hk => hk.2) (.int .i64 t225)) (fun _ hk => ⟨hk.1.1.1, ⟨hk.1.1.2.1, hk.1.1.2.2⟩⟩)⟩, ⟨by refine blk_far ?_ NB216_227.out _; refine blk_far ?_ NB216_227.out _; refine blk_far ?_ NB216_227.out _; refine blk_far ?_ NB216_227.out _; exact BK216.out⟩, ⟨by refine blk_far ?_ NB217_227.out _; refine blk_far ?_ NB217_227.out _; refine blk_far ?_ NB217_227.out _; refine blk_far ?_ NB217_227.out _; exact BK217.out⟩, ⟨by repeat (first | (with_reducible first | exact HB.out | apply Ext.ba | apply Ext.bn | apply Ext.bd | refine Ext.bs ?_ GE216.out | refine Ext.bs ?_ GE217.out | refine Ext.bs ?_ GE227.out) | exact HB.out | exact .refl _ _)⟩⟩
     · rw [if_neg c10] at H; exact absurd H (by simp)
    · rw [if_neg c9] at H; exact absurd H (by simp)
   ·
    rw [if_neg c8] at H
    have c8b0 : decide (x16_1 < (y218.length : Int)) = false := decide_eq_false c8
    clear c8
    simp only [Option.some.injEq, Prod.mk.injEq] at H
    obtain ⟨rfl, rfl, rfl, rfl, rfl⟩ := H
    have hnb47 := NB217_216.out
    have hnc47 := NB216_217.out
    have hcz48_0 : wr.cell? ⟨gb217, 0, none⟩ = some (.int .u64 x218000_1) := (blk_cell BK217.out 0).trans rfl
    have hcz48_1 : wr.cell? ⟨gb217, 1, none⟩ = some (.int .i64 x218001_1) := (blk_cell BK217.out 1).trans rfl
    have hcz48_2 : wr.cell? ⟨gb217, 2, none⟩ = some (.int .i64 x218002_1) := (blk_cell BK217.out 2).trans rfl
    have hcz48_3 : wr.cell? ⟨gb217, 3, none⟩ = some (.int .i64 x218003_1) := (blk_cell BK217.out 3).trans rfl
    have hfz48_0 := blk_frozen BK217.out 0
    have hfz48_1 := blk_frozen BK217.out 1
    have hfz48_2 := blk_frozen BK217.out 2
    have hfz48_3 := blk_frozen BK217.out 3
    have hcz49_0 : wr.cell? ⟨gb216, 0, none⟩ = some (.int .u64 0) := (blk_cell BK216.out 0).trans rfl
    have hcz49_1 : wr.cell? ⟨gb216, 1, none⟩ = some (.int .i64 0) := (blk_cell BK216.out 1).trans rfl
    have hcz49_2 : wr.cell? ⟨gb216, 2, none⟩ = some (.int .i64 0) := (blk_cell BK216.out 2).trans rfl
    have hcz49_3 : wr.cell? ⟨gb216, 3, none⟩ = some (.int .i64 0) := (blk_cell BK216.out 3).trans rfl
    have hfz49_0 := blk_frozen BK216.out 0
    have hfz49_1 := blk_frozen BK216.out 1
    have hfz49_2 := blk_frozen BK216.out 2
    have hfz49_3 := blk_frozen BK216.out 3
    go_wp2
    refine bodyPost_ret (results_ct rfl _ _ gb216 24 #[.int .u64 x218000_1, .int .i64 x218001_1, .int .i64 x218002_1, .int .i64 x218003_1] (0, 0) _ rfl (by exact Ext.puts4 BK216.out) Try.underlying24 rfl (by kernel_rfl)) rfl ?_
    exact ⟨by first | rfl | (simp [errW_none, errW_some] <;> rfl) | (simp [*, errW_none, errW_some] <;> rfl), by repeat (first | (with_reducible first | exact HB.out | apply Ext.ba | apply Ext.bn | apply Ext.bd | refine Ext.bs ?_ GE216.out | refine Ext.bs ?_ GE217.out) | exact HB.out | exact .refl _ _)⟩

end Go.Proofs.Ytfkihcdonddcoaa.PL
