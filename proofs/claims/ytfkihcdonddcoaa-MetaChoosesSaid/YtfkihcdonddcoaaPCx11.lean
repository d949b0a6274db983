-- Written by wip/printx.py, a program of this work over the kit's print, for this claim.
import Derived.Test.YtfkihcdonddcoaaPCx0
import Derived.Test.YtfkihcdonddcoaaPCx10
namespace Go.Proofs.Ytfkihcdonddcoaa.PC
open Go.RowKit Go.Proofs.YtfkihcdonddcoaaW.PrintWords Go.Proofs.YtfkihcdonddcoaaW.PrintLast Go.Proofs.YtfkihcdonddcoaaW.PrintMore
attribute [local go_sem] max2_int min2_int max_two min_two max_three min_three max_four min_four   -- for this text's walks alone
attribute [local go_sem] Ext.pick_u8 Ext.pick_u32 Ext.pick_u64
set_option linter.unusedVariables false
set_option linter.unusedSimpArgs false



/-! ### meta_Choose: function 20 -/
def meta_Choose.l0 : Nat → Int → List (List Int) → Int → Int → Int → Int → Int → Int → Option (Int × Int × Int × Int × Int)
 | 0, _, _, _, _, _, _, _, _ => none
 | k + 1, x7, x14, x15, x16, x220000, x220001, x220002, x220003 => if x16 < x15 then (if 0 ≤ x16 then (if x16 < (x14.length : Int) then ((meta_Decode.f k (rd_L2 x14 x16)).bind fun bt224 => (if bt224.2.2.2.2 = 0 then (if (Int.tmod bt224.1 2) = (IntKind.u64.wrap (x16)) then (if x7 = 0 then (if bt224.1 > x220000 then (meta_Choose.l0 k 0 x14 x15 (wrap64 (x16 + 1)) bt224.1 bt224.2.1 bt224.2.2.1 bt224.2.2.2.1) else (meta_Choose.l0 k x7 x14 x15 (wrap64 (x16 + 1)) x220000 x220001 x220002 x220003)) else (meta_Choose.l0 k 0 x14 x15 (wrap64 (x16 + 1)) bt224.1 bt224.2.1 bt224.2.2.1 bt224.2.2.2.1)) else (meta_Choose.l0 k x7 x14 x15 (wrap64 (x16 + 1)) x220000 x220001 x220002 x220003)) else (meta_Choose.l0 k x7 x14 x15 (wrap64 (x16 + 1)) x220000 x220001 x220002 x220003))) else (none)) else (none)) else (some (x220000, x220001, x220002, x220003, x7))
def meta_Choose.f (k : Nat) (l0 : List Int) (l1 : List Int) : Option (Int × Int × Int × Int × Int) := (some (([l0, l1] : List (List Int)) : List (List Int))).bind fun y220 => (meta_Choose.l0 k 7 y220 (y220.length : Int) 0 0 0 0 0)
theorem meta_Choose.mono_l : ∀ k, (∀ y0 y1 y2 y3 y4 y5 y6 y7, LeO (meta_Choose.l0 k y0 y1 y2 y3 y4 y5 y6 y7) (meta_Choose.l0 (k + 1) y0 y1 y2 y3 y4 y5 y6 y7))
 | 0 => fun _ _ _ _ _ _ _ _ r h => by simp [meta_Choose.l0] at h
 | k + 1 => by
  have ih0 := meta_Choose.mono_l k
  ·
   intro y0 y1 y2 y3 y4 y5 y6 y7
   unfold meta_Choose.l0
   repeat' first
   | (with_reducible exact ih0 _ _ _ _ _ _ _ _)
   | (with_reducible exact meta_Decode.mono _ _)
   | (with_reducible exact LeO.refl _)
   | (with_reducible exact LeO.none _)
   | (with_reducible refine LeO.ite ?_ ?_)
   | (with_reducible refine LeO.bind ?_ (fun _ => ?_))
   | exact ih0 _ _ _ _ _ _ _ _
   | exact meta_Decode.mono _ _
   | exact LeO.none _
   | refine LeO.ite ?_ ?_
   | refine LeO.bind ?_ (fun _ => ?_)
theorem meta_Choose.mono : ∀ a0 a1 k, LeO (meta_Choose.f k a0 a1) (meta_Choose.f (k + 1) a0 a1) := by
 intro a0 a1 k
 have ih0 := meta_Choose.mono_l k
 unfold meta_Choose.f
 repeat' first
   | (with_reducible exact ih0 _ _ _ _ _ _ _ _)
   | (with_reducible exact meta_Decode.mono _ _)
   | (with_reducible exact LeO.refl _)
   | (with_reducible exact LeO.none _)
   | (with_reducible refine LeO.ite ?_ ?_)
   | (with_reducible refine LeO.bind ?_ (fun _ => ?_))
   | exact ih0 _ _ _ _ _ _ _ _
   | exact meta_Decode.mono _ _
   | exact LeO.none _
   | refine LeO.ite ?_ ?_
   | refine LeO.bind ?_ (fun _ => ?_)
set_option maxHeartbeats 8000000 in
set_option maxRecDepth 100000 in
theorem meta_Choose.calls (k : Nat) (P0_ : Nat → Prop) (A0 : Option Addr) (c0 : Nat) (l0 : List Int) (P1_ : Nat → Prop) (A1 : Option Addr) (c1 : Nat) (l1 : List Int) (r1 : Int) (r2 : Int) (r3 : Int) (r4 : Int) (r5 : Int) (w : World) (hs0 : Kd.V (Kd.int .u8) 5 w w.heap.size (fun k_ => P0_ k_) (.slice A0 l0.length c0) l0) (hs1 : Kd.V (Kd.int .u8) 5 w w.heap.size (fun k_ => P1_ k_) (.slice A1 l1.length c1) l1) (h : meta_Choose.f k l0 l1 = some (r1, r2, r3, r4, r5)) :
  Calls Try.prog 20 #[.slice A0 l0.length c0, .slice A1 l1.length c1] w fun e w' => e = .returned (.tuple #[.agg #[.int .u64 r1, .int .i64 r2, .int .i64 r3, .int .i64 r4], .int .i64 r5]) ∧ Below w.heap.size w w' := by
 have hu24 := Try.underlying24
 have HO0 := Ext.a (show Kd.V (Kd.int .u8) 5 w w.heap.size (fun k_ => ((P0_ k_ ∨ P1_ k_) ∨ w.heap.size ≤ k_)) (.slice A0 l0.length c0) l0 from Kd.V_mono hs0 (fun k_ hk => .inl (.inl hk)))
 have HO1 := Ext.a (show Kd.V (Kd.int .u8) 5 w w.heap.size (fun k_ => ((P0_ k_ ∨ P1_ k_) ∨ w.heap.size ≤ k_)) (.slice A1 l1.length c1) l1 from Kd.V_mono hs1 (fun k_ hk => .inl (.inr hk)))
 have HB := Ext.a (Below.refl w.heap.size w)
 have H : ((some (([l0, l1] : List (List Int)) : List (List Int))).bind fun y220 => (meta_Choose.l0 k 7 y220 (y220.length : Int) 0 0 0 0 0)) = some (r1, r2, r3, r4, r5) := h
 clear h
 obtain ⟨y220, hy220⟩ : ∃ y_ : List (List Int), y_ = (([l0, l1] : List (List Int))) := ⟨_, rfl⟩
 replace H : (meta_Choose.l0 k 7 y220 (y220.length : Int) 0 0 0 0 0) = some (r1, r2, r3, r4, r5) := by first | (rw [hy220]; with_reducible exact H) | (have H2_ := (Option.bind_some _ _).symm.trans H; rw [hy220]; with_reducible exact H2_) | (have H2_ := (Option.bind_some _ _).symm.trans H; with_reducible exact H2_) | with_reducible exact H | (rw [hy220]; exact H) | exact H
 have Ny220 := Aside0.mk hy220
 clear hy220
 have H' := Aside0.mk H
 clear H
 go_enter Try.func20, Try.ntmps20
 go_wp2_with (first | ((with_reducible refine gate_dst (N := 4) rfl ?_); refine box_event ?hg (N := 4) ?hd (cs := #[.int .u64 0, .int .i64 0, .int .i64 0, .int .i64 0]) (t := 24) ?hr ?_; (case hd => rfl); (case hg => rfl); (case hr => first | (go_simp; done) | (go_simp; rfl)); intro gb218 hg w3 hbox hb; have n0_ := Ext.a (Kd.V_below (Kd.V_elderB (Ext.nV HO0.out) gb218 (Nat.le_of_eq hg.symm)) hb); have n1_ := Ext.a (Kd.V_below (Kd.V_elderB (Ext.nV HO1.out) gb218 (Nat.le_of_eq hg.symm)) hb); have n2_ := Ext.a (below_step (Ext.nB HB.out) hb); have n3_ := Ext.a (hbox); have n4_ := Ext.a ((by rw [hg]; exact (below_size (Ext.nB HB.out)) : w.heap.size ≤ gb218)); have n5_ := Ext.a ((by rw [hg]; exact (below_size (Ext.nB HB.out)) : w.heap.size ≤ gb218)); clear HO0 HO1 HB; have HO0 := n0_; have HO1 := n1_; have HB := n2_; have BK218 := n3_; have GW218 := n4_; have GE218 := n5_; clear n0_ n1_ n2_ n3_ n4_ n5_; clear hb hbox hg) | ((with_reducible refine gate_dst (N := 6) rfl ?_); refine box_event ?hg (N := 6) ?hd (cs := #[.int .u64 0, .int .i64 0, .int .i64 0, .int .i64 0]) (t := 24) ?hr ?_; (case hd => rfl); (case hg => rfl); (case hr => first | (go_simp; done) | (go_simp; rfl)); intro gb219 hg w4 hbox hb; have n0_ := Ext.a (Kd.V_below (Kd.V_elderB (Ext.nV HO0.out) gb219 (Nat.le_of_eq hg.symm)) hb); have n1_ := Ext.a (Kd.V_below (Kd.V_elderB (Ext.nV HO1.out) gb219 (Nat.le_of_eq hg.symm)) hb); have n2_ := Ext.a (blk_below BK218.out hb); have n3_ := Ext.a (below_step (by repeat (first | (with_reducible first | exact HB.out | apply Ext.ba | apply Ext.bn | apply Ext.bd | refine Ext.bs ?_ GE218.out) | exact HB.out | exact .refl _ _)) hb); have n4_ := Ext.a (hbox); have n5_ := Ext.a ((by rw [hg]; exact (below_size (by repeat (first | (with_reducible first | exact HB.out | apply Ext.ba | apply Ext.bn | apply Ext.bd | refine Ext.bs ?_ GE218.out) | exact HB.out | exact .refl _ _))) : w.heap.size ≤ gb219)); have n6_ := Ext.a ((by rw [hg]; exact (below_size (by repeat (first | (with_reducible first | exact HB.out | apply Ext.ba | apply Ext.bn | apply Ext.bd | refine Ext.bs ?_ GE218.out) | exact HB.out | exact .refl _ _))) : w.heap.size ≤ gb219)); have n7_ := Ext.a ((by rw [hg]; exact Nat.ne_of_lt (blk_lt BK218.out) : gb218 ≠ gb219)); have n8_ := Ext.a ((by rw [hg]; exact Nat.ne_of_gt (blk_lt BK218.out) : gb219 ≠ gb218)); clear HO0 HO1 BK218 HB; have HO0 := n0_; have HO1 := n1_; have BK218 := n2_; have HB := n3_; have BK219 := n4_; have GW219 := n5_; have GE219 := n6_; have NB218_219 := n7_; have NB219_218 := n8_; clear n0_ n1_ n2_ n3_ n4_ n5_ n6_ n7_ n8_; clear hb hbox hg) | ((with_reducible refine gate_dst (N := 14) rfl ?_); refine Kd.N_lit (Kd.slice 5 (Kd.int .u8)) _ 26 ?hg (N' := 14) ?hd (xs := ([l0, l1] : List (List Int))) (inner := [.slice A0 l0.length c0, .slice A1 l1.length c1]) (ok := (fun k_ => ((P0_ k_ ∨ P1_ k_) ∨ w.heap.size ≤ k_) ∧ k_ ≠ gb218 ∧ k_ ≠ gb219)) (okp := (fun k_ => ((P0_ k_ ∨ P1_ k_) ∨ w.heap.size ≤ k_) ∧ k_ ≠ gb218 ∧ k_ ≠ gb219)) ?hr ?hp (fun _ hk => hk) ((show ∀ k_, w4.heap.size ≤ k_ → (fun k_ => ((P0_ k_ ∨ P1_ k_) ∨ w.heap.size ≤ k_) ∧ k_ ≠ gb218 ∧ k_ ≠ gb219) k_ from fun k_ hk => ⟨(.inr (Nat.le_trans (below_size (by repeat (first | (with_reducible first | exact HB.out | apply Ext.ba | apply Ext.bn | apply Ext.bd | refine Ext.bs ?_ GE218.out | refine Ext.bs ?_ GE219.out) | exact HB.out | exact .refl _ _))) hk)), Kd.freshB BK218.out k_ hk, Kd.freshB BK219.out k_ hk⟩) _ (Nat.le_refl _)) (Below.refl _ _) (Nat.le_refl _) (by simp) ?_; (case hd => rfl); (case hg => rfl); (case hr => first | (go_simp; done) | (go_simp; rfl)); (case hp => exact (Reps.one (show Kd.FK (Kd.slice 5 (Kd.int .u8)) _ _ l0 [.slice A0 l0.length c0] from (Kd.FK_slice_mk (Kd.V_reads' (Kd.V_mono (e := 0) (base := 0) (ok' := (fun k_ => ((P0_ k_ ∨ P1_ k_) ∨ w.heap.size ≤ k_) ∧ k_ ≠ gb218 ∧ k_ ≠ gb219)) (HO0.out) (fun k_ hk => ⟨hk.1.1, ⟨hk.1.2, hk.2⟩⟩))).2.1 (Kd.V_F (e := 0) (base := 0) (Kd.V_mono (e := 0) (base := 0) (ok' := (fun k_ => ((P0_ k_ ∨ P1_ k_) ∨ w.heap.size ≤ k_) ∧ k_ ≠ gb218 ∧ k_ ≠ gb219)) (HO0.out) (fun k_ hk => ⟨hk.1.1, ⟨hk.1.2, hk.2⟩⟩))))) (Reps.one (show Kd.FK (Kd.slice 5 (Kd.int .u8)) _ _ l1 [.slice A1 l1.length c1] from (Kd.FK_slice_mk (Kd.V_reads' (Kd.V_mono (e := 0) (base := 0) (ok' := (fun k_ => ((P0_ k_ ∨ P1_ k_) ∨ w.heap.size ≤ k_) ∧ k_ ≠ gb218 ∧ k_ ≠ gb219)) (HO1.out) (fun k_ hk => ⟨hk.1.1, ⟨hk.1.2, hk.2⟩⟩))).2.1 (Kd.V_F (e := 0) (base := 0) (Kd.V_mono (e := 0) (base := 0) (ok' := (fun k_ => ((P0_ k_ ∨ P1_ k_) ∨ w.heap.size ≤ k_) ∧ k_ ≠ gb218 ∧ k_ ≠ gb219)) (HO1.out) (fun k_ hk => ⟨hk.1.1, ⟨hk.1.2, hk.2⟩⟩))))) (Reps.none _ _)))); intro v221 w5 ho6 hb hg_ hnew_; clear hg_ hnew_; (first | rw [← Ny220.out] at ho6 | (simp only [Int.reduceToNat] at ho6; rw [← Ny220.out] at ho6)); have n0_ := Ext.a (Kd.V_elder' (Ext.nV HO0.out) (Kd.N_base ho6) hb); have n1_ := Ext.a (Kd.V_elder' (Ext.nV HO1.out) (Kd.N_base ho6) hb); have n2_ := Ext.a (Kd.N_lower ho6 (below_size (by repeat (first | (with_reducible first | exact HB.out | apply Ext.ba | apply Ext.bn | apply Ext.bd | refine Ext.bs ?_ GE218.out | refine Ext.bs ?_ GE219.out) | exact HB.out | exact .refl _ _)))); have n3_ := Ext.a (blk_below BK218.out hb); have n4_ := Ext.a (blk_below BK219.out hb); have n5_ := Ext.a (below_step (by repeat (first | (with_reducible first | exact HB.out | apply Ext.ba | apply Ext.bn | apply Ext.bd | refine Ext.bs ?_ GE218.out | refine Ext.bs ?_ GE219.out) | exact HB.out | exact .refl _ _)) hb); clear HO0 HO1 BK218 BK219 HB; have HO0 := n0_; have HO1 := n1_; have HO222 := n2_; have BK218 := n3_; have BK219 := n4_; have HB := n5_; clear n0_ n1_ n2_ n3_ n4_ n5_; clear hb ho6; obtain ⟨Ao7, co7, eo7⟩ := Kd.N_slice HO222.out; subst eo7))
 go_loopg [7, 16] k (fun kq v7 v16 w' => ∃ (x7_1 : Int) (x16_1 : Int) (x220000_1 : Int) (x220001_1 : Int) (x220002_1 : Int) (x220003_1 : Int), v7 = .int .i64 x7_1 ∧ v16 = .int .i64 x16_1 ∧ Aside0 (meta_Choose.l0 kq x7_1 y220 (y220.length : Int) x16_1 x220000_1 x220001_1 x220002_1 x220003_1 = some (r1, r2, r3, r4, r5)) ∧ Aside0 (kq ≤ k) ∧ Aside0 (Kd.N (Kd.slice 5 (Kd.int .u8)) 26 w' w.heap.size (fun k_ => ((P0_ k_ ∨ P1_ k_) ∨ w.heap.size ≤ k_) ∧ k_ ≠ gb218 ∧ k_ ≠ gb219) (.slice Ao7 y220.length co7) y220) ∧ Aside0 (w'.heap[gb218]? = some (.cells #[.int .u64 0, .int .i64 0, .int .i64 0, .int .i64 0] 24 (0, 0))) ∧ Aside0 (w'.heap[gb219]? = some (.cells #[.int .u64 x220000_1, .int .i64 x220001_1, .int .i64 x220002_1, .int .i64 x220003_1] 24 (0, 0))) ∧ Aside0 (Below w.heap.size w w'))
 case atStart => exact ⟨(7), (0), (0), (0), (0), (0), (by first | rfl | (simp; done) | (simp [*]; done)), (by first | rfl | (simp; done) | (simp [*]; done)), H', ⟨Nat.le_refl _⟩, ⟨by (with_reducible repeat (first | apply Kd.N_alloc | apply Kd.N_drewN | apply Kd.N_drew)); exact HO222.out⟩, ⟨by exact BK218.out⟩, ⟨by exact BK219.out⟩, ⟨by repeat (first | (with_reducible first | exact HB.out | apply Ext.ba | apply Ext.bn | apply Ext.bd | refine Ext.bs ?_ GE218.out | refine Ext.bs ?_ GE219.out) | exact HB.out | exact .refl _ _)⟩⟩
 case round =>
  clear H'
  try clear c1
  try clear c2
  try clear p2
  obtain ⟨x7_1, x16_1, x220000_1, x220001_1, x220002_1, x220003_1, rfl, rfl, HA, HK1, HO_14, BK218, BK219, HB⟩ := hrel
  cases gk with
  | zero => exact absurd HA.out (by simp [meta_Choose.l0])
  | succ k1 =>
   have H := HA.out
   clear HA
   simp only [meta_Choose.l0] at H
   by_cases c8 : x16_1 < (y220.length : Int)
   ·
    rw [if_pos c8] at H
    have c8b0 : decide (x16_1 < (y220.length : Int)) = true := decide_eq_true c8
    clear c8
    by_cases c9 : 0 ≤ x16_1
    ·
     rw [if_pos c9] at H
     have c9b0 : decide (0 ≤ x16_1) = true := decide_eq_true c9
     clear c9
     by_cases c10 : x16_1 < (y220.length : Int)
     ·
      rw [if_pos c10] at H
      have c10b0 : decide (x16_1 < (y220.length : Int)) = true := decide_eq_true c10
      clear c10
      replace H := Option.bind_eq_some_iff.mp H
      obtain ⟨⟨t224, t225, t226, t227, t228⟩, A110, H⟩ := H
      replace H : (if t228 = 0 then (if (Int.tmod t224 2) = (IntKind.u64.wrap (x16_1)) then (if x7_1 = 0 then (if t224 > x220000_1 then (meta_Choose.l0 k1 0 y220 (y220.length : Int) (wrap64 (x16_1 + 1)) t224 t225 t226 t227) else (meta_Choose.l0 k1 x7_1 y220 (y220.length : Int) (wrap64 (x16_1 + 1)) x220000_1 x220001_1 x220002_1 x220003_1)) else (meta_Choose.l0 k1 0 y220 (y220.length : Int) (wrap64 (x16_1 + 1)) t224 t225 t226 t227)) else (meta_Choose.l0 k1 x7_1 y220 (y220.length : Int) (wrap64 (x16_1 + 1)) x220000_1 x220001_1 x220002_1 x220003_1)) else (meta_Choose.l0 k1 x7_1 y220 (y220.length : Int) (wrap64 (x16_1 + 1)) x220000_1 x220001_1 x220002_1 x220003_1)) = some (r1, r2, r3, r4, r5) := H
      have A11 := Aside0.mk A110
      clear A110
      by_cases c12 : t228 = 0
      ·
       rw [if_pos c12] at H
       have c12b0 : (t228 == 0) = true := beq_iff_eq.mpr c12
       have c12b1 : (t228 != 0) = false := bne_eq_false_iff_eq.mpr c12
       clear c12
       by_cases c13 : (Int.tmod t224 2) = (IntKind.u64.wrap (x16_1))
       ·
        rw [if_pos c13] at H
        have c13b0 : ((Int.tmod t224 2) == (IntKind.u64.wrap (x16_1))) = true := beq_iff_eq.mpr c13
        have c13b1 : ((Int.tmod t224 2) != (IntKind.u64.wrap (x16_1))) = false := bne_eq_false_iff_eq.mpr c13
        clear c13
        by_cases c14 : x7_1 = 0
        ·
         rw [if_pos c14] at H
         have c14b0 : (x7_1 == 0) = true := beq_iff_eq.mpr c14
         have c14b1 : (x7_1 != 0) = false := bne_eq_false_iff_eq.mpr c14
         clear c14
         by_cases c15 : t224 > x220000_1
         ·
          rw [if_pos c15] at H
          have c15b0 : decide (x220000_1 < t224) = true := decide_eq_true c15
          clear c15
          have H' := Aside0.mk H
          clear H
          have p223 : 0 ≤ (x16_1 : Int) := of_decide_eq_true (by first | (with_reducible assumption) | assumption)
          have q223 : x16_1 < (y220.length : Int) := of_decide_eq_true (by first | (with_reducible assumption) | assumption)
          obtain ⟨ad223, A223_0, c223_0, e223, hx223_0, hl223_0, hi223_0⟩ := at_L2 (Kd.N_reads' HO_14.out).2.2 x16_1 p223 q223
          cases e223
          obtain ⟨ce223, hce223, hMe223, hcc223⟩ := Kd.N_get HO_14.out [] x16_1 p223 (by first | exact q223 | exact of_decide_eq_true (by first | (with_reducible assumption) | assumption) | (have e_ := (Kd.N_reads' HO_14.out).1; omega))
          obtain ⟨ua223_0, uc223_0, rfl, ul223_0, ge223_0⟩ := Kd.FK_slice_open hMe223
          have hv223_0 := hcc223 0 _ rfl
          rw [Nat.add_zero, show ((Kd.slice 5 (Kd.int .u8))).sz = 1 from rfl, Nat.mul_one] at hv223_0
          replace hv223_0 := Option.some.inj (hv223_0.symm.trans hx223_0)
          injection hv223_0 with hva_ hvn_ hvc_
          rw [hva_] at ge223_0
          rw [hvc_] at ul223_0
          have HL223_0 := Ext.a (show Kd.V (Kd.int .u8) 5 _ w.heap.size _ _ (rd_L2 y220 x16_1) from Kd.V_mk ul223_0 ge223_0)
          clear hva_ hvn_ hvc_ ge223_0 ul223_0
          clear hcc223 hce223
          have HR223_0 := Aside0.mk hi223_0
          have HC223_0 := Aside0.mk hl223_0
          clear hi223_0 hl223_0
          replace p223 := eq_true p223
          replace q223 := eq_true q223
          go_wp2_with (first | ((with_reducible refine gate_callee (f := 18) rfl ?_); refine goesL_ (some 23) rfl rfl Try.func18 (by kernel_rfl) rfl #[.slice A223_0 (rd_L2 y220 x16_1).length c223_0] rfl (by (try simp only [List.map_toArray, List.map_cons, List.map_nil]); first | done | rfl | (simp only [List.length_drop, List.length_take]; rfl)) ?_; (with_reducible refine (meta_Decode.calls k1 _ _ (rd_L2 y220 x16_1) t224 t225 t226 t227 t228 _ ?side1 ?side2 A11.out).mono ?_); (case side1 => repeat (first | exact (by repeat (first | (with_reducible exact HR223_0.out) | (with_reducible refine Kd.C_alloc ?_ _) | (with_reducible refine Kd.C_drewN ?_ _) | (with_reducible refine Kd.C_drew ?_) | exact HR223_0.out)) | (with_reducible refine Kd.C_alloc ?_ _) | (with_reducible refine Kd.C_drewN ?_ _) | (with_reducible refine Kd.C_drew ?_))); (case side2 => exact HC223_0.out); rintro e w16 ⟨rfl, hb⟩; refine ⟨_, rfl, ?_⟩; have n0_ := Ext.a (Kd.N_below (Ext.nN HO_14.out) hb); have n1_ := Ext.a (Kd.V_below (Ext.nV HL223_0.out) hb); have n2_ := Ext.a (blk_below BK218.out hb); have n3_ := Ext.a (blk_below BK219.out hb); have n4_ := Ext.a (Kd.C_below (by repeat (first | (with_reducible exact HR223_0.out) | (with_reducible refine Kd.C_alloc ?_ _) | (with_reducible refine Kd.C_drewN ?_ _) | (with_reducible refine Kd.C_drew ?_) | exact HR223_0.out)) hb); have n5_ := Ext.a (below_step (by repeat (first | (with_reducible first | exact HB.out | apply Ext.ba | apply Ext.bn | apply Ext.bd | refine Ext.bs ?_ GE218.out | refine Ext.bs ?_ GE219.out) | exact HB.out | exact .refl _ _)) hb); clear HO_14 HL223_0 BK218 BK219 HR223_0 HB; have HO_14 := n0_; have HL223_0 := n1_; have BK218 := n2_; have BK219 := n3_; have HR223_0 := n4_; have HB := n5_; clear n0_ n1_ n2_ n3_ n4_ n5_; (try clear hb); (try clear hb2); (try clear hk); (try clear hi)) | ((with_reducible refine gate_dst (N := 10) rfl ?_); refine box_event ?hg (N := 10) ?hd (cs := #[.int .u64 0, .int .i64 0, .int .i64 0, .int .i64 0]) (t := 24) ?hr ?_; (case hd => rfl); (case hg => rfl); (case hr => first | (go_simp; done) | (go_simp; rfl)); intro gb229 hg w17 hbox hb; have n0_ := Ext.a (Kd.N_below (Kd.N_elderB (Ext.nN HO_14.out) gb229 (Nat.le_of_eq hg.symm)) hb); have n1_ := Ext.a (Kd.V_below (Kd.V_elderB (Ext.nV HL223_0.out) gb229 (Nat.le_of_eq hg.symm)) hb); have n2_ := Ext.a (blk_below BK218.out hb); have n3_ := Ext.a (blk_below BK219.out hb); have n4_ := Ext.a (Kd.C_below (by repeat (first | (with_reducible exact HR223_0.out) | (with_reducible refine Kd.C_alloc ?_ _) | (with_reducible refine Kd.C_drewN ?_ _) | (with_reducible refine Kd.C_drew ?_) | exact HR223_0.out)) hb); have n5_ := Ext.a (below_step (by repeat (first | (with_reducible first | exact HB.out | apply Ext.ba | apply Ext.bn | apply Ext.bd | refine Ext.bs ?_ GE218.out | refine Ext.bs ?_ GE219.out) | exact HB.out | exact .refl _ _)) hb); have n6_ := Ext.a (hbox); have n7_ := Ext.a ((by rw [hg]; exact (below_size (by repeat (first | (with_reducible first | exact HB.out | apply Ext.ba | apply Ext.bn | apply Ext.bd | refine Ext.bs ?_ GE218.out | refine Ext.bs ?_ GE219.out) | exact HB.out | exact .refl _ _))) : w.heap.size ≤ gb229)); have n8_ := Ext.a ((by rw [hg]; exact (below_size (by repeat (first | (with_reducible first | exact HB.out | apply Ext.ba | apply Ext.bn | apply Ext.bd | refine Ext.bs ?_ GE218.out | refine Ext.bs ?_ GE219.out) | exact HB.out | exact .refl _ _))) : w.heap.size ≤ gb229)); have n9_ := Ext.a ((by rw [hg]; exact Nat.ne_of_lt (blk_lt BK218.out) : gb218 ≠ gb229)); have n10_ := Ext.a ((by rw [hg]; exact Nat.ne_of_gt (blk_lt BK218.out) : gb229 ≠ gb218)); have n11_ := Ext.a ((by rw [hg]; exact Nat.ne_of_lt (blk_lt BK219.out) : gb219 ≠ gb229)); have n12_ := Ext.a ((by rw [hg]; exact Nat.ne_of_gt (blk_lt BK219.out) : gb229 ≠ gb219)); clear HO_14 HL223_0 BK218 BK219 HR223_0 HB; have HO_14 := n0_; have HL223_0 := n1_; have BK218 := n2_; have BK219 := n3_; have HR223_0 := n4_; have HB := n5_; have BK229 := n6_; have GW229 := n7_; have GE229 := n8_; have NB218_229 := n9_; have NB229_218 := n10_; have NB219_229 := n11_; have NB229_219 := n12_; clear n0_ n1_ n2_ n3_ n4_ n5_ n6_ n7_ n8_ n9_ n10_ n11_ n12_; clear hb hbox hg; have hnb18 := NB229_218.out; have hnc18 := NB218_229.out; have hnb19 := NB229_219.out; have hnc19 := NB219_229.out; obtain ⟨hcz20_0, hcz20_1, hcz20_2, hcz20_3⟩ := Ext.cells4 BK229.out; obtain ⟨hfz20_0, hfz20_1, hfz20_2, hfz20_3⟩ := Ext.froz4 BK229.out; have hnb21 := NB219_218.out; have hnc21 := NB218_219.out; obtain ⟨hcz22_0, hcz22_1, hcz22_2, hcz22_3⟩ := Ext.cells4 BK219.out; obtain ⟨hfz22_0, hfz22_1, hfz22_2, hfz22_3⟩ := Ext.froz4 BK219.out))
          go_roundg k1
          case measure => have := HK1.out; omega
          case rel => exact ⟨(0), (wrap64 (x16_1 + 1)), (t224), (t225), (t226), (t227), (by first | rfl | (simp; done) | (simp [*]; done)), (by first | rfl | (simp; done) | (simp [*]; done)), H', ⟨by have := HK1.out; omega⟩, ⟨by (with_reducible repeat (first | apply Kd.N_alloc | apply Kd.N_drewN | apply Kd.N_drew)); exact Kd.N_mono (Kd.N_far (p := ⟨gb219, 3, none⟩) (Kd.N_far (p := ⟨gb219, 2, none⟩) (Kd.N_far (p := ⟨gb219, 1, none⟩) (Kd.N_far (p := ⟨gb219, 0, none⟩) (Kd.N_far (p := ⟨gb229, 3, none⟩) (Kd.N_far (p := ⟨gb229, 2, none⟩) (Kd.N_far (p := ⟨gb229, 1, none⟩) (Kd.N_far (p := ⟨gb229, 0, none⟩) (Kd.N_mono (Kd.N_mono HO_14.out (fun k_ hk => (⟨hk, hk.2⟩ : _ ∧ k_ ≠ gb229))) (fun k_ hk => (⟨hk, hk.1.1.2.2⟩ : _ ∧ k_ ≠ gb219))) (fun _ hk => hk.1.2) (.int .u64 t224)) (fun _ hk => hk.1.2) (.int .i64 t225)) (fun _ hk => hk.1.2) (.int .i64 t226)) (fun _ hk => hk.1.2) (.int .i64 t227)) (fun _ hk => hk.2) (.int .u64 t224)) (fun _ hk => hk.2) (.int .i64 t225)) (fun _ hk => hk.2) (.int .i64 t226)) (fun _ hk => hk.2) (.int .i64 t227)) (fun _ hk => ⟨hk.1.1.1.1, ⟨hk.1.1.1.2.1, hk.1.1.1.2.2⟩⟩)⟩, ⟨by refine blk_far ?_ NB218_219.out _; refine blk_far ?_ NB218_219.out _; refine blk_far ?_ NB218_219.out _; refine blk_far ?_ NB218_219.out _; refine blk_far ?_ NB218_229.out _; refine blk_far ?_ NB218_229.out _; refine blk_far ?_ NB218_229.out _; refine blk_far ?_ NB218_229.out _; exact BK218.out⟩, ⟨by refine blk_put (cs := #[.int .u64 t224, .int .i64 t225, .int .i64 t226, .int .i64 x220003_1]) ?_ 3 _ rfl; refine blk_put (cs := #[.int .u64 t224, .int .i64 t225, .int .i64 x220002_1, .int .i64 x220003_1]) ?_ 2 _ rfl; refine blk_put (cs := #[.int .u64 t224, .int .i64 x220001_1, .int .i64 x220002_1, .int .i64 x220003_1]) ?_ 1 _ rfl; refine blk_put (cs := #[.int .u64 x220000_1, .int .i64 x220001_1, .int .i64 x220002_1, .int .i64 x220003_1]) ?_ 0 _ rfl; refine blk_far ?_ NB219_229.out _; refine blk_far ?_ NB219_229.out _; refine blk_far ?_ NB219_229.out _; refine blk_far ?_ NB219_229.out _; exact BK219.out⟩, ⟨by repeat (first | (with_reducible first | exact HB.out | apply Ext.ba | apply Ext.bn | apply Ext.bd | refine Ext.bs ?_ GE218.out | refine Ext.bs ?_ GE219.out | refine Ext.bs ?_ GE229.out) | exact HB.out | exact .refl _ _)⟩⟩
         ·
          rw [if_neg c15] at H
          have c15b0 : decide (x220000_1 < t224) = false := decide_eq_false c15
          clear c15
          have H' := Aside0.mk H
          clear H
          have p223 : 0 ≤ (x16_1 : Int) := of_decide_eq_true (by first | (with_reducible assumption) | assumption)
          have q223 : x16_1 < (y220.length : Int) := of_decide_eq_true (by first | (with_reducible assumption) | assumption)
          obtain ⟨ad223, A223_0, c223_0, e223, hx223_0, hl223_0, hi223_0⟩ := at_L2 (Kd.N_reads' HO_14.out).2.2 x16_1 p223 q223
          cases e223
          obtain ⟨ce223, hce223, hMe223, hcc223⟩ := Kd.N_get HO_14.out [] x16_1 p223 (by first | exact q223 | exact of_decide_eq_true (by first | (with_reducible assumption) | assumption) | (have e_ := (Kd.N_reads' HO_14.out).1; omega))
          obtain ⟨ua223_0, uc223_0, rfl, ul223_0, ge223_0⟩ := Kd.FK_slice_open hMe223
          have hv223_0 := hcc223 0 _ rfl
          rw [Nat.add_zero, show ((Kd.slice 5 (Kd.int .u8))).sz = 1 from rfl, Nat.mul_one] at hv223_0
          replace hv223_0 := Option.some.inj (hv223_0.symm.trans hx223_0)
          injection hv223_0 with hva_ hvn_ hvc_
          rw [hva_] at ge223_0
          rw [hvc_] at ul223_0
          have HL223_0 := Ext.a (show Kd.V (Kd.int .u8) 5 _ w.heap.size _ _ (rd_L2 y220 x16_1) from Kd.V_mk ul223_0 ge223_0)
          clear hva_ hvn_ hvc_ ge223_0 ul223_0
          clear hcc223 hce223
          have HR223_0 := Aside0.mk hi223_0
          have HC223_0 := Aside0.mk hl223_0
          clear hi223_0 hl223_0
          replace p223 := eq_true p223
          replace q223 := eq_true q223
          go_wp2_with (first | ((with_reducible refine gate_callee (f := 18) rfl ?_); refine goesL_ (some 23) rfl rfl Try.func18 (by kernel_rfl) rfl #[.slice A223_0 (rd_L2 y220 x16_1).length c223_0] rfl (by (try simp only [List.map_toArray, List.map_cons, List.map_nil]); first | done | rfl | (simp only [List.length_drop, List.length_take]; rfl)) ?_; (with_reducible refine (meta_Decode.calls k1 _ _ (rd_L2 y220 x16_1) t224 t225 t226 t227 t228 _ ?side1 ?side2 A11.out).mono ?_); (case side1 => repeat (first | exact (by repeat (first | (with_reducible exact HR223_0.out) | (with_reducible refine Kd.C_alloc ?_ _) | (with_reducible refine Kd.C_drewN ?_ _) | (with_reducible refine Kd.C_drew ?_) | exact HR223_0.out)) | (with_reducible refine Kd.C_alloc ?_ _) | (with_reducible refine Kd.C_drewN ?_ _) | (with_reducible refine Kd.C_drew ?_))); (case side2 => exact HC223_0.out); rintro e w23 ⟨rfl, hb⟩; refine ⟨_, rfl, ?_⟩; have n0_ := Ext.a (Kd.N_below (Ext.nN HO_14.out) hb); have n1_ := Ext.a (Kd.V_below (Ext.nV HL223_0.out) hb); have n2_ := Ext.a (blk_below BK218.out hb); have n3_ := Ext.a (blk_below BK219.out hb); have n4_ := Ext.a (Kd.C_below (by repeat (first | (with_reducible exact HR223_0.out) | (with_reducible refine Kd.C_alloc ?_ _) | (with_reducible refine Kd.C_drewN ?_ _) | (with_reducible refine Kd.C_drew ?_) | exact HR223_0.out)) hb); have n5_ := Ext.a (below_step (by repeat (first | (with_reducible first | exact HB.out | apply Ext.ba | apply Ext.bn | apply Ext.bd | refine Ext.bs ?_ GE218.out | refine Ext.bs ?_ GE219.out) | exact HB.out | exact .refl _ _)) hb); clear HO_14 HL223_0 BK218 BK219 HR223_0 HB; have HO_14 := n0_; have HL223_0 := n1_; have BK218 := n2_; have BK219 := n3_; have HR223_0 := n4_; have HB := n5_; clear n0_ n1_ n2_ n3_ n4_ n5_; (try clear hb); (try clear hb2); (try clear hk); (try clear hi)) | ((with_reducible refine gate_dst (N := 10) rfl ?_); refine box_event ?hg (N := 10) ?hd (cs := #[.int .u64 0, .int .i64 0, .int .i64 0, .int .i64 0]) (t := 24) ?hr ?_; (case hd => rfl); (case hg => rfl); (case hr => first | (go_simp; done) | (go_simp; rfl)); intro gb229 hg w24 hbox hb; have n0_ := Ext.a (Kd.N_below (Kd.N_elderB (Ext.nN HO_14.out) gb229 (Nat.le_of_eq hg.symm)) hb); have n1_ := Ext.a (Kd.V_below (Kd.V_elderB (Ext.nV HL223_0.out) gb229 (Nat.le_of_eq hg.symm)) hb); have n2_ := Ext.a (blk_below BK218.out hb); have n3_ := Ext.a (blk_below BK219.out hb); have n4_ := Ext.a (Kd.C_below (by repeat (first | (with_reducible exact HR223_0.out) | (with_reducible refine Kd.C_alloc ?_ _) | (with_reducible refine Kd.C_drewN ?_ _) | (with_reducible refine Kd.C_drew ?_) | exact HR223_0.out)) hb); have n5_ := Ext.a (below_step (by repeat (first | (with_reducible first | exact HB.out | apply Ext.ba | apply Ext.bn | apply Ext.bd | refine Ext.bs ?_ GE218.out | refine Ext.bs ?_ GE219.out) | exact HB.out | exact .refl _ _)) hb); have n6_ := Ext.a (hbox); have n7_ := Ext.a ((by rw [hg]; exact (below_size (by repeat (first | (with_reducible first | exact HB.out | apply Ext.ba | apply Ext.bn | apply Ext.bd | refine Ext.bs ?_ GE218.out | refine Ext.bs ?_ GE219.out) | exact HB.out | exact .refl _ _))) : w.heap.size ≤ gb229)); have n8_ := Ext.a ((by rw [hg]; exact (below_size (by repeat (first | (with_reducible first | exact HB.out | apply Ext.ba | apply Ext.bn | apply Ext.bd | refine Ext.bs ?_ GE218.out | refine Ext.bs ?_ GE219.out) | exact HB.out | exact .refl _ _))) : w.heap.size ≤ gb229)); have n9_ := Ext.a ((by rw [hg]; exact Nat.ne_of_lt (blk_lt BK218.out) : gb218 ≠ gb229)); have n10_ := Ext.a ((by rw [hg]; exact Nat.ne_of_gt (blk_lt BK218.out) : gb229 ≠ gb218)); have n11_ := Ext.a ((by rw [hg]; exact Nat.ne_of_lt (blk_lt BK219.out) : gb219 ≠ gb229)); have n12_ := Ext.a ((by rw [hg]; exact Nat.ne_of_gt (blk_lt BK219.out) : gb229 ≠ gb219)); clear HO_14 HL223_0 BK218 BK219 HR223_0 HB; have HO_14 := n0_; have HL223_0 := n1_; have BK218 := n2_; have BK219 := n3_; have HR223_0 := n4_; have HB := n5_; have BK229 := n6_; have GW229 := n7_; have GE229 := n8_; have NB218_229 := n9_; have NB229_218 := n10_; have NB219_229 := n11_; have NB229_219 := n12_; clear n0_ n1_ n2_ n3_ n4_ n5_ n6_ n7_ n8_ n9_ n10_ n11_ n12_; clear hb hbox hg; have hnb25 := NB229_218.out; have hnc25 := NB218_229.out; have hnb26 := NB229_219.out; have hnc26 := NB219_229.out; obtain ⟨hcz27_0, hcz27_1, hcz27_2, hcz27_3⟩ := Ext.cells4 BK229.out; obtain ⟨hfz27_0, hfz27_1, hfz27_2, hfz27_3⟩ := Ext.froz4 BK229.out; have hnb28 := NB219_218.out; have hnc28 := NB218_219.out; obtain ⟨hcz29_0, hcz29_1, hcz29_2, hcz29_3⟩ := Ext.cells4 BK219.out; obtain ⟨hfz29_0, hfz29_1, hfz29_2, hfz29_3⟩ := Ext.froz4 BK219.out))
          go_roundg k1
          case measure => have := HK1.out; omega
          case rel => exact ⟨(x7_1), (wrap64 (x16_1 + 1)), (x220000_1), (x220001_1), (x220002_1), (x220003_1), (by first | rfl | (simp; done) | (simp [*]; done)), (by first | rfl | (simp; done) | (simp [*]; done)), H', ⟨by have := HK1.out; omega⟩, ⟨by (with_reducible repeat (first | apply Kd.N_alloc | apply Kd.N_drewN | apply Kd.N_drew)); exact Kd.N_mono (Kd.N_far (p := ⟨gb229, 3, none⟩) (Kd.N_far (p := ⟨gb229, 2, none⟩) (Kd.N_far (p := ⟨gb229, 1, none⟩) (Kd.N_far (p := ⟨gb229, 0, none⟩) (Kd.N_mono HO_14.out (fun k_ hk => (⟨hk, hk.2⟩ : _ ∧ k_ ≠ gb229))) (fun _ hk => hk.2) (.int .u64 t224)) (fun _ hk => hk.2) (.int .i64 t225)) (fun _ hk => hk.2) (.int .i64 t226)) (fun _ hk => hk.2) (.int .i64 t227)) (fun _ hk => ⟨hk.1.1.1, ⟨hk.1.1.2.1, hk.1.1.2.2⟩⟩)⟩, ⟨by refine blk_far ?_ NB218_229.out _; refine blk_far ?_ NB218_229.out _; refine blk_far ?_ NB218_229.out _; refine blk_far ?_ NB218_229.out _; exact BK218.out⟩, ⟨by refine blk_far ?_ NB219_229.out _; refine blk_far ?_ NB219_229.out _; refine blk_far ?_ NB219_229.out _; refine blk_far ?_ NB219_229.out _; exact BK219.out⟩, ⟨by repeat (first | (with_reducible first | exact HB.out | apply Ext.ba | apply Ext.bn | apply Ext.bd | refine Ext.bs ?_ GE218.out | refine Ext.bs ?_ GE219.out | refine Ext.bs ?_ GE229.out) | exact HB.out | exact .refl _ _)⟩⟩
        ·
         rw [if_neg c14] at H
         have c14b0 : (x7_1 == 0) = false := beq_eq_false_iff_ne.mpr c14
         have c14b1 : (x7_1 != 0) = true := bne_iff_ne.mpr c14
         have H' := Aside0.mk H
         clear H
         have p223 : 0 ≤ (x16_1 : Int) := of_decide_eq_true (by first | (with_reducible assumption) | assumption)
         have q223 : x16_1 < (y220.length : Int) := of_decide_eq_true (by first | (with_reducible assumption) | assumption)
         obtain ⟨ad223, A223_0, c223_0, e223, hx223_0, hl223_0, hi223_0⟩ := at_L2 (Kd.N_reads' HO_14.out).2.2 x16_1 p223 q223
         cases e223
         obtain ⟨ce223, hce223, hMe223, hcc223⟩ := Kd.N_get HO_14.out [] x16_1 p223 (by first | exact q223 | exact of_decide_eq_true (by first | (with_reducible assumption) | assumption) | (have e_ := (Kd.N_reads' HO_14.out).1; omega))
         obtain ⟨ua223_0, uc223_0, rfl, ul223_0, ge223_0⟩ := Kd.FK_slice_open hMe223
         have hv223_0 := hcc223 0 _ rfl
         rw [Nat.add_zero, show ((Kd.slice 5 (Kd.int .u8))).sz = 1 from rfl, Nat.mul_one] at hv223_0
         replace hv223_0 := Option.some.inj (hv223_0.symm.trans hx223_0)
         injection hv223_0 with hva_ hvn_ hvc_
         rw [hva_] at ge223_0
         rw [hvc_] at ul223_0
         have HL223_0 := Ext.a (show Kd.V (Kd.int .u8) 5 _ w.heap.size _ _ (rd_L2 y220 x16_1) from Kd.V_mk ul223_0 ge223_0)
         clear hva_ hvn_ hvc_ ge223_0 ul223_0
         clear hcc223 hce223
         have HR223_0 := Aside0.mk hi223_0
         have HC223_0 := Aside0.mk hl223_0
         clear hi223_0 hl223_0
         replace p223 := eq_true p223
         replace q223 := eq_true q223
         go_wp2_with (first | ((with_reducible refine gate_callee (f := 18) rfl ?_); refine goesL_ (some 23) rfl rfl Try.func18 (by kernel_rfl) rfl #[.slice A223_0 (rd_L2 y220 x16_1).length c223_0] rfl (by (try simp only [List.map_toArray, List.map_cons, List.map_nil]); first | done | rfl | (simp only [List.length_drop, List.length_take]; rfl)) ?_; (with_reducible refine (meta_Decode.calls k1 _ _ (rd_L2 y220 x16_1) t224 t225 t226 t227 t228 _ ?side1 ?side2 A11.out).mono ?_); (case side1 => repeat (first | exact (by repeat (first | (with_reducible exact HR223_0.out) | (with_reducible refine Kd.C_alloc ?_ _) | (with_reducible refine Kd.C_drewN ?_ _) | (with_reducible refine Kd.C_drew ?_) | exact HR223_0.out)) | (with_reducible refine Kd.C_alloc ?_ _) | (with_reducible refine Kd.C_drewN ?_ _) | (with_reducible refine Kd.C_drew ?_))); (case side2 => exact HC223_0.out); rintro e w30 ⟨rfl, hb⟩; refine ⟨_, rfl, ?_⟩; have n0_ := Ext.a (Kd.N_below (Ext.nN HO_14.out) hb); have n1_ := Ext.a (Kd.V_below (Ext.nV HL223_0.out) hb); have n2_ := Ext.a (blk_below BK218.out hb); have n3_ := Ext.a (blk_below BK219.out hb); have n4_ := Ext.a (Kd.C_below (by repeat (first | (with_reducible exact HR223_0.out) | (with_reducible refine Kd.C_alloc ?_ _) | (with_reducible refine Kd.C_drewN ?_ _) | (with_reducible refine Kd.C_drew ?_) | exact HR223_0.out)) hb); have n5_ := Ext.a (below_step (by repeat (first | (with_reducible first | exact HB.out | apply Ext.ba | apply Ext.bn | apply Ext.bd | refine Ext.bs ?_ GE218.out | refine Ext.bs ?_ GE219.out) | exact HB.out | exact .refl _ _)) hb); clear HO_14 HL223_0 BK218 BK219 HR223_0 HB; have HO_14 := n0_; have HL223_0 := n1_; have BK218 := n2_; have BK219 := n3_; have HR223_0 := n4_; have HB := n5_; clear n0_ n1_ n2_ n3_ n4_ n5_; (try clear hb); (try clear hb2); (try clear hk); (try clear hi)) | ((with_reducible refine gate_dst (N := 10) rfl ?_); refine box_event ?hg (N := 10) ?hd (cs := #[.int .u64 0, .int .i64 0, .int .i64 0, .int .i64 0]) (t := 24) ?hr ?_; (case hd => rfl); (case hg => rfl); (case hr => first | (go_simp; done) | (go_simp; rfl)); intro gb229 hg w31 hbox hb; have n0_ := Ext.a (Kd.N_below (Kd.N_elderB (Ext.nN HO_14.out) gb229 (Nat.le_of_eq hg.symm)) hb); have n1_ := Ext.a (Kd.V_below (Kd.V_elderB (Ext.nV HL223_0.out) gb229 (Nat.le_of_eq hg.symm)) hb); have n2_ := Ext.a (blk_below BK218.out hb); have n3_ := Ext.a (blk_below BK219.out hb); have n4_ := Ext.a (Kd.C_below (by repeat (first | (with_reducible exact HR223_0.out) | (with_reducible refine Kd.C_alloc ?_ _) | (with_reducible refine Kd.C_drewN ?_ _) | (with_reducible refine Kd.C_drew ?_) | exact HR223_0.out)) hb); have n5_ := Ext.a (below_step (by repeat (first | (with_reducible first | exact HB.out | apply Ext.ba | apply Ext.bn | apply Ext.bd | refine Ext.bs ?_ GE218.out | refine Ext.bs ?_ GE219.out) | exact HB.out | exact .refl _ _)) hb); have n6_ := Ext.a (hbox); have n7_ := Ext.a ((by rw [hg]; exact (below_size (by repeat (first | (with_reducible first | exact HB.out | apply Ext.ba | apply Ext.bn | apply Ext.bd | refine Ext.bs ?_ GE218.out | refine Ext.bs ?_ GE219.out) | exact HB.out | exact .refl _ _))) : w.heap.size ≤ gb229)); have n8_ := Ext.a ((by rw [hg]; exact (below_size (by repeat (first | (with_reducible first | exact HB.out | apply Ext.ba | apply Ext.bn | apply Ext.bd | refine Ext.bs ?_ GE218.out | refine Ext.bs ?_ GE219.out) | exact HB.out | exact .refl _ _))) : w.heap.size ≤ gb229)); have n9_ := Ext.a ((by rw [hg]; exact Nat.ne_of_lt (blk_lt BK218.out) : gb218 ≠ gb229)); have n10_ := Ext.a ((by rw [hg]; exact Nat.ne_of_gt (blk_lt BK218.out) : gb229 ≠ gb218)); have n11_ := Ext.a ((by rw [hg]; exact Nat.ne_of_lt (blk_lt BK219.out) : gb219 ≠ gb229)); have n12_ := Ext.a ((by rw [hg]; exact Nat.ne_of_gt (blk_lt BK219.out) : gb229 ≠ gb219)); clear HO_14 HL223_0 BK218 BK219 HR223_0 HB; have HO_14 := n0_; have HL223_0 := n1_; have BK218 := n2_; have BK219 := n3_; have HR223_0 := n4_; have HB := n5_; have BK229 := n6_; have GW229 := n7_; have GE229 := n8_; have NB218_229 := n9_; have NB229_218 := n10_; have NB219_229 := n11_; have NB229_219 := n12_; clear n0_ n1_ n2_ n3_ n4_ n5_ n6_ n7_ n8_ n9_ n10_ n11_ n12_; clear hb hbox hg; have hnb32 := NB229_218.out; have hnc32 := NB218_229.out; have hnb33 := NB229_219.out; have hnc33 := NB219_229.out; obtain ⟨hcz34_0, hcz34_1, hcz34_2, hcz34_3⟩ := Ext.cells4 BK229.out; obtain ⟨hfz34_0, hfz34_1, hfz34_2, hfz34_3⟩ := Ext.froz4 BK229.out; have hnb35 := NB219_218.out; have hnc35 := NB218_219.out; obtain ⟨hcz36_0, hcz36_1, hcz36_2, hcz36_3⟩ := Ext.cells4 BK219.out; obtain ⟨hfz36_0, hfz36_1, hfz36_2, hfz36_3⟩ := Ext.froz4 BK219.out))
         go_roundg k1
         case measure => have := HK1.out; omega
         case rel => exact ⟨(0), (wrap64 (x16_1 + 1)), (t224), (t225), (t226), (t227), (by first | rfl | (simp; done) | (simp [*]; done)), (by first | rfl | (simp; done) | (simp [*]; done)), H', ⟨by have := HK1.out; omega⟩, ⟨by (with_reducible repeat (first | apply Kd.N_alloc | apply Kd.N_drewN | apply Kd.N_drew)); exact Kd.N_mono (Kd.N_far (p := ⟨gb219, 3, none⟩) (Kd.N_far (p := ⟨gb219, 2, none⟩) (Kd.N_far (p := ⟨gb219, 1, none⟩) (Kd.N_far (p := ⟨gb219, 0, none⟩) (Kd.N_far (p := ⟨gb229, 3, none⟩) (Kd.N_far (p := ⟨gb229, 2, none⟩) (Kd.N_far (p := ⟨gb229, 1, none⟩) (Kd.N_far (p := ⟨gb229, 0, none⟩) (Kd.N_mono (Kd.N_mono HO_14.out (fun k_ hk => (⟨hk, hk.2⟩ : _ ∧ k_ ≠ gb229))) (fun k_ hk => (⟨hk, hk.1.1.2.2⟩ : _ ∧ k_ ≠ gb219))) (fun _ hk => hk.1.2) (.int .u64 t224)) (fun _ hk => hk.1.2) (.int .i64 t225)) (fun _ hk => hk.1.2) (.int .i64 t226)) (fun _ hk => hk.1.2) (.int .i64 t227)) (fun _ hk => hk.2) (.int .u64 t224)) (fun _ hk => hk.2) (.int .i64 t225)) (fun _ hk => hk.2) (.int .i64 t226)) (fun _ hk => hk.2) (.int .i64 t227)) (fun _ hk => ⟨hk.1.1.1.1, ⟨hk.1.1.1.2.1, hk.1.1.1.2.2⟩⟩)⟩, ⟨by refine blk_far ?_ NB218_219.out _; refine blk_far ?_ NB218_219.out _; refine blk_far ?_ NB218_219.out _; refine blk_far ?_ NB218_219.out _; refine blk_far ?_ NB218_229.out _; refine blk_far ?_ NB218_229.out _; refine blk_far ?_ NB218_229.out _; refine blk_far ?_ NB218_229.out _; exact BK218.out⟩, ⟨by refine blk_put (cs := #[.int .u64 t224, .int .i64 t225, .int .i64 t226, .int .i64 x220003_1]) ?_ 3 _ rfl; refine blk_put (cs := #[.int .u64 t224, .int .i64 t225, .int .i64 x220002_1, .int .i64 x220003_1]) ?_ 2 _ rfl; refine blk_put (cs := #[.int .u64 t224, .int .i64 x220001_1, .int .i64 x220002_1, .int .i64 x220003_1]) ?_ 1 _ rfl; refine blk_put (cs := #[.int .u64 x220000_1, .int .i64 x220001_1, .int .i64 x220002_1, .int .i64 x220003_1]) ?_ 0 _ rfl; refine blk_far ?_ NB219_229.out _; refine blk_far ?_ NB219_229.out _; refine blk_far ?_ NB219_229.out _; refine blk_far ?_ NB219_229.out _; exact BK219.out⟩, ⟨by repeat (first | (with_reducible first | exact HB.out | apply Ext.ba | apply Ext.bn | apply Ext.bd | refine Ext.bs ?_ GE218.out | refine Ext.bs ?_ GE219.out | refine Ext.bs ?_ GE229.out) | exact HB.out | exact .refl _ _)⟩⟩
       ·
        rw [if_neg c13] at H
        have c13b0 : ((Int.tmod t224 2) == (IntKind.u64.wrap (x16_1))) = false := beq_eq_false_iff_ne.mpr c13
        have c13b1 : ((Int.tmod t224 2) != (IntKind.u64.wrap (x16_1))) = true := bne_iff_ne.mpr c13
        have H' := Aside0.mk H
        clear H
        have p223 : 0 ≤ (x16_1 : Int) := of_decide_eq_true (by first | (with_reducible assumption) | assumption)
        have q223 : x16_1 < (y220.length : Int) := of_decide_eq_true (by first | (with_reducible assumption) | assumption)
        obtain ⟨ad223, A223_0, c223_0, e223, hx223_0, hl223_0, hi223_0⟩ := at_L2 (Kd.N_reads' HO_14.out).2.2 x16_1 p223 q223
        cases e223
        obtain ⟨ce223, hce223, hMe223, hcc223⟩ := Kd.N_get HO_14.out [] x16_1 p223 (by first | exact q223 | exact of_decide_eq_true (by first | (with_reducible assumption) | assumption) | (have e_ := (Kd.N_reads' HO_14.out).1; omega))
        obtain ⟨ua223_0, uc223_0, rfl, ul223_0, ge223_0⟩ := Kd.FK_slice_open hMe223
        have hv223_0 := hcc223 0 _ rfl
        rw [Nat.add_zero, show ((Kd.slice 5 (Kd.int .u8))).sz = 1 from rfl, Nat.mul_one] at hv223_0
        replace hv223_0 := Option.some.inj (hv223_0.symm.trans hx223_0)
        injection hv223_0 with hva_ hvn_ hvc_
        rw [hva_] at ge223_0
        rw [hvc_] at ul223_0
        have HL223_0 := Ext.a (show Kd.V (Kd.int .u8) 5 _ w.heap.size _ _ (rd_L2 y220 x16_1) from Kd.V_mk ul223_0 ge223_0)
        clear hva_ hvn_ hvc_ ge223_0 ul223_0
        clear hcc223 hce223
        have HR223_0 := Aside0.mk hi223_0
        have HC223_0 := Aside0.mk hl223_0
        clear hi223_0 hl223_0
        replace p223 := eq_true p223
        replace q223 := eq_true q223
        go_wp2_with (first | ((with_reducible refine gate_callee (f := 18) rfl ?_); refine goesL_ (some 23) rfl rfl Try.func18 (by kernel_rfl) rfl #[.slice A223_0 (rd_L2 y220 x16_1).length c223_0] rfl (by (try simp only [List.map_toArray, List.map_cons, List.map_nil]); first | done | rfl | (simp only [List.length_drop, List.length_take]; rfl)) ?_; (with_reducible refine (meta_Decode.calls k1 _ _ (rd_L2 y220 x16_1) t224 t225 t226 t227 t228 _ ?side1 ?side2 A11.out).mono ?_); (case side1 => repeat (first | exact (by repeat (first | (with_reducible exact HR223_0.out) | (with_reducible refine Kd.C_alloc ?_ _) | (with_reducible refine Kd.C_drewN ?_ _) | (with_reducible refine Kd.C_drew ?_) | exact HR223_0.out)) | (with_reducible refine Kd.C_alloc ?_ _) | (with_reducible refine Kd.C_drewN ?_ _) | (with_reducible refine Kd.C_drew ?_))); (case side2 => exact HC223_0.out); rintro e w37 ⟨rfl, hb⟩; refine ⟨_, rfl, ?_⟩; have n0_ := Ext.a (Kd.N_below (Ext.nN HO_14.out) hb); have n1_ := Ext.a (Kd.V_below (Ext.nV HL223_0.out) hb); have n2_ := Ext.a (blk_below BK218.out hb); have n3_ := Ext.a (blk_below BK219.out hb); have n4_ := Ext.a (Kd.C_below (by repeat (first | (with_reducible exact HR223_0.out) | (with_reducible refine Kd.C_alloc ?_ _) | (with_reducible refine Kd.C_drewN ?_ _) | (with_reducible refine Kd.C_drew ?_) | exact HR223_0.out)) hb); have n5_ := Ext.a (below_step (by repeat (first | (with_reducible first | exact HB.out | apply Ext.ba | apply Ext.bn | apply Ext.bd | refine Ext.bs ?_ GE218.out | refine Ext.bs ?_ GE219.out) | exact HB.out | exact .refl _ _)) hb); clear HO_14 HL223_0 BK218 BK219 HR223_0 HB; have HO_14 := n0_; have HL223_0 := n1_; have BK218 := n2_; have BK219 := n3_; have HR223_0 := n4_; have HB := n5_; clear n0_ n1_ n2_ n3_ n4_ n5_; (try clear hb); (try clear hb2); (try clear hk); (try clear hi)) | ((with_reducible refine gate_dst (N := 10) rfl ?_); refine box_event ?hg (N := 10) ?hd (cs := #[.int .u64 0, .int .i64 0, .int .i64 0, .int .i64 0]) (t := 24) ?hr ?_; (case hd => rfl); (case hg => rfl); (case hr => first | (go_simp; done) | (go_simp; rfl)); intro gb229 hg w38 hbox hb; have n0_ := Ext.a (Kd.N_below (Kd.N_elderB (Ext.nN HO_14.out) gb229 (Nat.le_of_eq hg.symm)) hb); have n1_ := Ext.a (Kd.V_below (Kd.V_elderB (Ext.nV HL223_0.out) gb229 (Nat.le_of_eq hg.symm)) hb); have n2_ := Ext.a (blk_below BK218.out hb); have n3_ := Ext.a (blk_below BK219.out hb); have n4_ := Ext.a (Kd.C_below (by repeat (first | (with_reducible exact HR223_0.out) | (with_reducible refine Kd.C_alloc ?_ _) | (with_reducible refine Kd.C_drewN ?_ _) | (with_reducible refine Kd.C_drew ?_) | exact HR223_0.out)) hb); have n5_ := Ext.a (below_step (by repeat (first | (with_reducible first | exact HB.out | apply Ext.ba | apply Ext.bn | apply Ext.bd | refine Ext.bs ?_ GE218.out | refine Ext.bs ?_ GE219.out) | exact HB.out | exact .refl _ _)) hb); have n6_ := Ext.a (hbox); have n7_ := Ext.a ((by rw [hg]; exact (below_size (by repeat (first | (with_reducible first | exact HB.out | apply Ext.ba | apply Ext.bn | apply Ext.bd | refine Ext.bs ?_ GE218.out | refine Ext.bs ?_ GE219.out) | exact HB.out | exact .refl _ _))) : w.heap.size ≤ gb229)); have n8_ := Ext.a ((by rw [hg]; exact (below_size (by repeat (first | (with_reducible first | exact HB.out | apply Ext.ba | apply Ext.bn | apply Ext.bd | refine Ext.bs ?_ GE218.out | refine Ext.bs ?_ GE219.out) | exact HB.out | exact .refl _ _))) : w.heap.size ≤ gb229)); have n9_ := Ext.a ((by rw [hg]; exact Nat.ne_of_lt (blk_lt BK218.out) : gb218 ≠ gb229)); have n10_ := Ext.a ((by rw [hg]; exact Nat.ne_of_gt (blk_lt BK218.out) : gb229 ≠ gb218)); have n11_ := Ext.a ((by rw [hg]; exact Nat.ne_of_lt (blk_lt BK219.out) : gb219 ≠ gb229)); have n12_ := Ext.a ((by rw [hg]; exact Nat.ne_of_gt (blk_lt BK219.out) : gb229 ≠ gb219)); clear HO_14 HL223_0 BK218 BK219 HR223_0 HB; have HO_14 := n0_; have HL223_0 := n1_; have BK218 := n2_; have BK219 := n3_; have HR223_0 := n4_; have HB := n5_; have BK229 := n6_; have GW229 := n7_; have GE229 := n8_; have NB218_229 := n9_; have NB229_218 := n10_; have NB219_229 := n11_; have NB229_219 := n12_; clear n0_ n1_ n2_ n3_ n4_ n5_ n6_ n7_ n8_ n9_ n10_ n11_ n12_; clear hb hbox hg; have hnb39 := NB229_218.out; have hnc39 := NB218_229.out; have hnb40 := NB229_219.out; have hnc40 := NB219_229.out; obtain ⟨hcz41_0, hcz41_1, hcz41_2, hcz41_3⟩ := Ext.cells4 BK229.out; obtain ⟨hfz41_0, hfz41_1, hfz41_2, hfz41_3⟩ := Ext.froz4 BK229.out))
        go_roundg k1
        case measure => have := HK1.out; omega
        case rel => exact ⟨(x7_1), (wrap64 (x16_1 + 1)), (x220000_1), (x220001_1), (x220002_1), (x220003_1), (by first | rfl | (simp; done) | (simp [*]; done)), (by first | rfl | (simp; done) | (simp [*]; done)), H', ⟨by have := HK1.out; omega⟩, ⟨by (with_reducible repeat (first | apply Kd.N_alloc | apply Kd.N_drewN | apply Kd.N_drew)); exact Kd.N_mono (Kd.N_far (p := ⟨gb229, 3, none⟩) (Kd.N_far (p := ⟨gb229, 2, none⟩) (Kd.N_far (p := ⟨gb229, 1, none⟩) (Kd.N_far (p := ⟨gb229, 0, none⟩) (Kd.N_mono HO_14.out (fun k_ hk => (⟨hk, hk.2⟩ : _ ∧ k_ ≠ gb229))) (fun _ hk => hk.2) (.int .u64 t224)) (fun _ hk => hk.2) (.int .i64 t225)) (fun _ hk => hk.2) (.int .i64 t226)) (fun _ hk => hk.2) (.int .i64 t227)) (fun _ hk => ⟨hk.1.1.1, ⟨hk.1.1.2.1, hk.1.1.2.2⟩⟩)⟩, ⟨by refine blk_far ?_ NB218_229.out _; refine blk_far ?_ NB218_229.out _; refine blk_far ?_ NB218_229.out _; refine blk_far ?_ NB218_229.out _; exact BK218.out⟩, ⟨by refine blk_far ?_ NB219_229.out _; refine blk_far ?_ NB219_229.out _; refine blk_far ?_ NB219_229.out _; refine blk_far ?_ NB219_229.out _; exact BK219.out⟩, ⟨by repeat (first | (with_reducible first | exact HB.out | apply Ext.ba | apply Ext.bn | apply Ext.bd | refine Ext.bs ?_ GE218.out | refine Ext.bs ?_ GE219.out | refine Ext.bs ?_ GE229.out) | exact HB.out | exact .refl _ _)⟩⟩
      ·
       rw [if_neg c12] at H
       have c12b0 : (t228 == 0) = false := beq_eq_false_iff_ne.mpr c12
       have c12b1 : (t228 != 0) = true := bne_iff_ne.mpr c12
       have H' := Aside0.mk H
       clear H
       have p223 : 0 ≤ (x16_1 : Int) := of_decide_eq_true (by first | (with_reducible assumption) | assumption)
       have q223 : x16_1 < (y220.length : Int) := of_decide_eq_true (by first | (with_reducible assumption) | assumption)
       obtain ⟨ad223, A223_0, c223_0, e223, hx223_0, hl223_0, hi223_0⟩ := at_L2 (Kd.N_reads' HO_14.out).2.2 x16_1 p223 q223
       cases e223
       obtain ⟨ce223, hce223, hMe223, hcc223⟩ := Kd.N_get HO_14.out [] x16_1 p223 (by first | exact q223 | exact of_decide_eq_true (by first | (with_reducible assumption) | assumption) | (have e_ := (Kd.N_reads' HO_14.out).1; omega))
       obtain ⟨ua223_0, uc223_0, rfl, ul223_0, ge223_0⟩ := Kd.FK_slice_open hMe223
       have hv223_0 := hcc223 0 _ rfl
       rw [Nat.add_zero, show ((Kd.slice 5 (Kd.int .u8))).sz = 1 from rfl, Nat.mul_one] at hv223_0
       replace hv223_0 := Option.some.inj (hv223_0.symm.trans hx223_0)
       injection hv223_0 with hva_ hvn_ hvc_
       rw [hva_] at ge223_0
       rw [hvc_] at ul223_0
       have HL223_0 := Ext.a (show Kd.V (Kd.int .u8) 5 _ w.heap.size _ _ (rd_L2 y220 x16_1) from Kd.V_mk ul223_0 ge223_0)
       clear hva_ hvn_ hvc_ ge223_0 ul223_0
       clear hcc223 hce223
       have HR223_0 := Aside0.mk hi223_0
       have HC223_0 := Aside0.mk hl223_0
       clear hi223_0 hl223_0
       replace p223 := eq_true p223
       replace q223 := eq_true q223
       go_wp2_with (first | ((with_reducible refine gate_callee (f := 18) rfl ?_); refine goesL_ (some 23) rfl rfl Try.func18 (by kernel_rfl) rfl #[.slice A223_0 (rd_L2 y220 x16_1).length c223_0] rfl (by (try simp only [List.map_toArray, List.map_cons, List.map_nil]); first | done | rfl | (simp only [List.length_drop, List.length_take]; rfl)) ?_; (with_reducible refine (meta_Decode.calls k1 _ _ (rd_L2 y220 x16_1) t224 t225 t226 t227 t228 _ ?side1 ?side2 A11.out).mono ?_); (case side1 => repeat (first | exact (by repeat (first | (with_reducible exact HR223_0.out) | (with_reducible refine Kd.C_alloc ?_ _) | (with_reducible refine Kd.C_drewN ?_ _) | (with_reducible refine Kd.C_drew ?_) | exact HR223_0.out)) | (with_reducible refine Kd.C_alloc ?_ _) | (with_reducible refine Kd.C_drewN ?_ _) | (with_reducible refine Kd.C_drew ?_))); (case side2 => exact HC223_0.out); rintro e w42 ⟨rfl, hb⟩; refine ⟨_, rfl, ?_⟩; have n0_ := Ext.a (Kd.N_below (Ext.nN HO_14.out) hb); have n1_ := Ext.a (Kd.V_below (Ext.nV HL223_0.out) hb); have n2_ := Ext.a (blk_below BK218.out hb); have n3_ := Ext.a (blk_below BK219.out hb); have n4_ := Ext.a (Kd.C_below (by repeat (first | (with_reducible exact HR223_0.out) | (with_reducible refine Kd.C_alloc ?_ _) | (with_reducible refine Kd.C_drewN ?_ _) | (with_reducible refine Kd.C_drew ?_) | exact HR223_0.out)) hb); have n5_ := Ext.a (below_step (by repeat (first | (with_reducible first | exact HB.out | apply Ext.ba | apply Ext.bn | apply Ext.bd | refine Ext.bs ?_ GE218.out | refine Ext.bs ?_ GE219.out) | exact HB.out | exact .refl _ _)) hb); clear HO_14 HL223_0 BK218 BK219 HR223_0 HB; have HO_14 := n0_; have HL223_0 := n1_; have BK218 := n2_; have BK219 := n3_; have HR223_0 := n4_; have HB := n5_; clear n0_ n1_ n2_ n3_ n4_ n5_; (try clear hb); (try clear hb2); (try clear hk); (try clear hi)) | ((with_reducible refine gate_dst (N := 10) rfl ?_); refine box_event ?hg (N := 10) ?hd (cs := #[.int .u64 0, .int .i64 0, .int .i64 0, .int .i64 0]) (t := 24) ?hr ?_; (case hd => rfl); (case hg => rfl); (case hr => first | (go_simp; done) | (go_simp; rfl)); intro gb229 hg w43 hbox hb; have n0_ := Ext.a (Kd.N_below (Kd.N_elderB (Ext.nN HO_14.out) gb229 (Nat.le_of_eq hg.symm)) hb); have n1_ := Ext.a (Kd.V_below (Kd.V_elderB (Ext.nV HL223_0.out) gb229 (Nat.le_of_eq hg.symm)) hb); have n2_ := Ext.a (blk_below BK218.out hb); have n3_ := Ext.a (blk_below BK219.out hb); have n4_ := Ext.a (Kd.C_below (by repeat (first | (with_reducible exact HR223_0.out) | (with_reducible refine Kd.C_alloc ?_ _) | (with_reducible refine Kd.C_drewN ?_ _) | (with_reducible refine Kd.C_drew ?_) | exact HR223_0.out)) hb); have n5_ := Ext.a (below_step (by repeat (first | (with_reducible first | exact HB.out | apply Ext.ba | apply Ext.bn | apply Ext.bd | refine Ext.bs ?_ GE218.out | refine Ext.bs ?_ GE219.out) | exact HB.out | exact .refl _ _)) hb); have n6_ := Ext.a (hbox); have n7_ := Ext.a ((by rw [hg]; exact (below_size (by repeat (first | (with_reducible first | exact HB.out | apply Ext.ba | apply Ext.bn | apply Ext.bd | refine Ext.bs ?_ GE218.out | refine Ext.bs ?_ GE219.out) | exact HB.out | exact .refl _ _))) : w.heap.size ≤ gb229)); have n8_ := Ext.a ((by rw [hg]; exact (below_size (by repeat (first | (with_reducible first | exact HB.out | apply Ext.ba | apply Ext.bn | apply Ext.bd | refine Ext.bs ?_ GE218.out | refine Ext.bs ?_ GE219.out) | exact HB.out | exact .refl _ _))) : w.heap.size ≤ gb229)); have n9_ := Ext.a ((by rw [hg]; exact Nat.ne_of_lt (blk_lt BK218.out) : gb218 ≠ gb229)); have n10_ := Ext.a ((by rw [hg]; exact Nat.ne_of_gt (blk_lt BK218.out) : gb229 ≠ gb218)); have n11_ := Ext.a ((by rw [hg]; exact Nat.ne_of_lt (blk_lt BK219.out) : gb219 ≠ gb229)); have n12_ := Ext.a ((by rw [hg]; exact Nat.ne_of_gt (blk_lt BK219.out) : gb229 ≠ gb219)); clear HO_14 HL223_0 BK218 BK219 HR223_0 HB; have HO_14 := n0_; have HL223_0 := n1_; have BK218 := n2_; have BK219 := n3_; have HR223_0 := n4_; have HB := n5_; have BK229 := n6_; have GW229 := n7_; have GE229 := n8_; have NB218_229 := n9_; have NB229_218 := n10_; have NB219_229 := n11_; have NB229_219 := n12_; clear n0_ n1_ n2_ n3_ n4_ n5_ n6_ n7_ n8_ n9_ n10_ n11_ n12_; clear hb hbox hg; have hnb44 := NB229_218.out; have hnc44 := NB218_229.out; have hnb45 := NB229_219.out; have hnc45 := NB219_229.out; obtain ⟨hcz46_0, hcz46_1, hcz46_2, hcz46_3⟩ := Ext.cells4 BK229.out; obtain ⟨hfz46_0, hfz46_1, hfz46_2, hfz46_3⟩ := Ext.froz4 BK229.out))
       go_roundg k1
       case measure => have := HK1.out; omega
       case rel => exact ⟨(x7_1), (wrap64 (x16_1 + 1)), (x220000_1), (x220001_1), (x220002_1), (x220003_1), (by first | rfl | (simp; done) | (simp [*]; done)), (by first | rfl | (simp; done) | (simp [*]; done)), H', ⟨by have := HK1.out; omega⟩, ⟨by (with_reducible repeat (first | apply Kd.N_alloc | apply Kd.N_drewN | apply Kd.N_drew)); exact Kd.N_mono (Kd.N_far (p := ⟨gb229, 3, none⟩) (Kd.N_far (p := ⟨gb229, 2, none⟩) (Kd.N_far (p := ⟨gb229, 1, none⟩) (Kd.N_far (p := ⟨gb229, 0, none⟩) (Kd.N_mono HO_14.out (fun k_ hk => (⟨hk, hk.2⟩ : _ ∧ k_ ≠ gb229))) (fun _ hk => hk.2) (.int .u64 t224)) (fun _ hk => hk.2) (.int .i64 t225)) (fun _ hk => hk.2) (.int .i64 t226)) (fun _ hk => hk.2) (.int .i64 t227)) (fun _ hk => ⟨hk.1.1.1, ⟨hk.1.1.2.1, hk.1.1.2.2⟩⟩)⟩, ⟨by refine blk_far ?_ NB218_229.out _; refine blk_far ?_ NB218_229.out _; refine blk_far ?_ NB218_229.out _; refine blk_far ?_ NB218_229.out _; exact BK218.out⟩, ⟨by refine blk_far ?_ NB219_229.out _; refine blk_far ?_ NB219_229.out _; refine blk_far ?_ NB219_229.out _; refine blk_far ?_ NB219_229.out _; exact BK219.out⟩, ⟨by repeat (first | (with_reducible first | exact HB.out | apply Ext.ba | apply Ext.bn | apply Ext.bd | refine Ext.bs ?_ GE218.out | refine Ext.bs ?_ GE219.out | refine Ext.bs ?_ GE229.out) | exact HB.out | exact .refl _ _)⟩⟩
     · rw [if_neg c10] at H; exact absurd H (by simp)
    · rw [if_neg c9] at H; exact absurd H (by simp)
   ·
    rw [if_neg c8] at H
    have c8b0 : decide (x16_1 < (y220.length : Int)) = false := decide_eq_false c8
    clear c8
    simp only [Option.some.injEq, Prod.mk.injEq] at H
    obtain ⟨rfl, rfl, rfl, rfl, rfl⟩ := H
    have hnb47 := NB219_218.out
    have hnc47 := NB218_219.out
    have hcz48_0 : wr.cell? ⟨gb219, 0, none⟩ = some (.int .u64 x220000_1) := (blk_cell BK219.out 0).trans rfl
    have hcz48_1 : wr.cell? ⟨gb219, 1, none⟩ = some (.int .i64 x220001_1) := (blk_cell BK219.out 1).trans rfl
    have hcz48_2 : wr.cell? ⟨gb219, 2, none⟩ = some (.int .i64 x220002_1) := (blk_cell BK219.out 2).trans rfl
    have hcz48_3 : wr.cell? ⟨gb219, 3, none⟩ = some (.int .i64 x220003_1) := (blk_cell BK219.out 3).trans rfl
    have hfz48_0 := blk_frozen BK219.out 0
    have hfz48_1 := blk_frozen BK219.out 1
    have hfz48_2 := blk_frozen BK219.out 2
    have hfz48_3 := blk_frozen BK219.out 3
    have hcz49_0 : wr.cell? ⟨gb218, 0, none⟩ = some (.int .u64 0) := (blk_cell BK218.out 0).trans rfl
    have hcz49_1 : wr.cell? ⟨gb218, 1, none⟩ = some (.int .i64 0) := (blk_cell BK218.out 1).trans rfl
    have hcz49_2 : wr.cell? ⟨gb218, 2, none⟩ = some (.int .i64 0) := (blk_cell BK218.out 2).trans rfl
    have hcz49_3 : wr.cell? ⟨gb218, 3, none⟩ = some (.int .i64 0) := (blk_cell BK218.out 3).trans rfl
    have hfz49_0 := blk_frozen BK218.out 0
    have hfz49_1 := blk_frozen BK218.out 1
    have hfz49_2 := blk_frozen BK218.out 2
    have hfz49_3 := blk_frozen BK218.out 3
    go_wp2
    refine bodyPost_ret (results_ct rfl _ _ gb218 24 #[.int .u64 x220000_1, .int .i64 x220001_1, .int .i64 x220002_1, .int .i64 x220003_1] (0, 0) _ rfl (by exact Ext.puts4 BK218.out) Try.underlying24 rfl (by kernel_rfl)) rfl ?_
    exact ⟨by first | rfl | (simp [errW_none, errW_some] <;> rfl) | (simp [*, errW_none, errW_some] <;> rfl), by repeat (first | (with_reducible first | exact HB.out | apply Ext.ba | apply Ext.bn | apply Ext.bd | refine Ext.bs ?_ GE218.out | refine Ext.bs ?_ GE219.out) | exact HB.out | exact .refl _ _)⟩



/-! ### terrierref05_Right: function 11 -/
def terrierref05_Right.f (a0_0 : Int) (a0_1 : Int) (a0_2 : Int) (a0_3 : Int) : Option (Bool) := if a0_3 < 8 then (some false) else (if a0_3 > 1024 then (some false) else (if a0_1 = 0 then (if a0_2 = 0 then (some true) else (if a0_2 > 1 then (some (decide (a0_2 < a0_3))) else (some false))) else (if a0_1 > 1 then (if a0_1 < a0_3 then (if a0_2 = 0 then (some true) else (if a0_2 > 1 then (some (decide (a0_2 < a0_3))) else (some false))) else (some false)) else (some false))))
set_option maxHeartbeats 8000000 in
set_option maxRecDepth 100000 in
theorem terrierref05_Right.calls (a0_0 : Int) (a0_1 : Int) (a0_2 : Int) (a0_3 : Int) (r : Bool) (w : World) (h : terrierref05_Right.f a0_0 a0_1 a0_2 a0_3 = some r) :
  Calls Try.prog 11 #[.agg #[.int .u64 a0_0, .int .i64 a0_1, .int .i64 a0_2, .int .i64 a0_3]] w fun e w' => e = .returned (.bool r) ∧ Below w.heap.size w w' := by
 have hu31 := Try.underlying31
 have HB := Ext.a (Below.refl w.heap.size w)
 have H : (if a0_3 < 8 then (some false) else (if a0_3 > 1024 then (some false) else (if a0_1 = 0 then (if a0_2 = 0 then (some true) else (if a0_2 > 1 then (some (decide (a0_2 < a0_3))) else (some false))) else (if a0_1 > 1 then (if a0_1 < a0_3 then (if a0_2 = 0 then (some true) else (if a0_2 > 1 then (some (decide (a0_2 < a0_3))) else (some false))) else (some false)) else (some false))))) = some r := h
 clear h
 by_cases c2 : a0_3 < 8
 ·
  rw [if_pos c2] at H
  have c2b0 : decide (a0_3 < 8) = true := decide_eq_true c2
  clear c2
  obtain rfl := Option.some.inj H
  go_enter Try.func11, Try.ntmps11
  go_wp2_with (first | ((with_reducible refine gate_dst (N := 1) rfl ?_); refine box_event ?hg (N := 1) ?hd (cs := #[.int .u64 a0_0, .int .i64 a0_1, .int .i64 a0_2, .int .i64 a0_3]) (t := 31) ?hr ?_; (case hd => rfl); (case hg => rfl); (case hr => first | (go_simp; done) | (go_simp; rfl)); intro gb230 hg w3 hbox hb; have n0_ := Ext.a (below_step (Ext.nB HB.out) hb); have n1_ := Ext.a (hbox); have n2_ := Ext.a ((by rw [hg]; exact (below_size (Ext.nB HB.out)) : w.heap.size ≤ gb230)); have n3_ := Ext.a ((by rw [hg]; exact (below_size (Ext.nB HB.out)) : w.heap.size ≤ gb230)); clear HB; have HB := n0_; have BK230 := n1_; have GW230 := n2_; have GE230 := n3_; clear n0_ n1_ n2_ n3_; clear hb hbox hg; obtain ⟨hcz4_0, hcz4_1, hcz4_2, hcz4_3⟩ := Ext.cells4 BK230.out; obtain ⟨hfz4_0, hfz4_1, hfz4_2, hfz4_3⟩ := Ext.froz4 BK230.out))
  go_ret
  exact ⟨by first | rfl | (simp [errW_none, errW_some] <;> rfl) | (simp [*, errW_none, errW_some] <;> rfl), by repeat (first | (with_reducible first | exact HB.out | apply Ext.ba | apply Ext.bn | apply Ext.bd | refine Ext.bs ?_ GE230.out) | exact HB.out | exact .refl _ _)⟩
 ·
  rw [if_neg c2] at H
  have c2b0 : decide (a0_3 < 8) = false := decide_eq_false c2
  clear c2
  by_cases c5 : a0_3 > 1024
  ·
   rw [if_pos c5] at H
   have c5b0 : decide (1024 < a0_3) = true := decide_eq_true c5
   clear c5
   obtain rfl := Option.some.inj H
   go_enter Try.func11, Try.ntmps11
   go_wp2_with (first | ((with_reducible refine gate_dst (N := 1) rfl ?_); refine box_event ?hg (N := 1) ?hd (cs := #[.int .u64 a0_0, .int .i64 a0_1, .int .i64 a0_2, .int .i64 a0_3]) (t := 31) ?hr ?_; (case hd => rfl); (case hg => rfl); (case hr => first | (go_simp; done) | (go_simp; rfl)); intro gb230 hg w6 hbox hb; have n0_ := Ext.a (below_step (Ext.nB HB.out) hb); have n1_ := Ext.a (hbox); have n2_ := Ext.a ((by rw [hg]; exact (below_size (Ext.nB HB.out)) : w.heap.size ≤ gb230)); have n3_ := Ext.a ((by rw [hg]; exact (below_size (Ext.nB HB.out)) : w.heap.size ≤ gb230)); clear HB; have HB := n0_; have BK230 := n1_; have GW230 := n2_; have GE230 := n3_; clear n0_ n1_ n2_ n3_; clear hb hbox hg; obtain ⟨hcz7_0, hcz7_1, hcz7_2, hcz7_3⟩ := Ext.cells4 BK230.out; obtain ⟨hfz7_0, hfz7_1, hfz7_2, hfz7_3⟩ := Ext.froz4 BK230.out))
   go_ret
   exact ⟨by first | rfl | (simp [errW_none, errW_some] <;> rfl) | (simp [*, errW_none, errW_some] <;> rfl), by repeat (first | (with_reducible first | exact HB.out | apply Ext.ba | apply Ext.bn | apply Ext.bd | refine Ext.bs ?_ GE230.out) | exact HB.out | exact .refl _ _)⟩
  ·
   rw [if_neg c5] at H
   have c5b0 : decide (1024 < a0_3) = false := decide_eq_false c5
   clear c5
   by_cases c8 : a0_1 = 0
   ·
    rw [if_pos c8] at H
    have c8b0 : (a0_1 == 0) = true := beq_iff_eq.mpr c8
    have c8b1 : (a0_1 != 0) = false := bne_eq_false_iff_eq.mpr c8
    clear c8
    by_cases c9 : a0_2 = 0
    ·
     rw [if_pos c9] at H
     have c9b0 : (a0_2 == 0) = true := beq_iff_eq.mpr c9
     have c9b1 : (a0_2 != 0) = false := bne_eq_false_iff_eq.mpr c9
     clear c9
     obtain rfl := Option.some.inj H
     go_enter Try.func11, Try.ntmps11
     go_wp2_with (first | ((with_reducible refine gate_dst (N := 1) rfl ?_); refine box_event ?hg (N := 1) ?hd (cs := #[.int .u64 a0_0, .int .i64 a0_1, .int .i64 a0_2, .int .i64 a0_3]) (t := 31) ?hr ?_; (case hd => rfl); (case hg => rfl); (case hr => first | (go_simp; done) | (go_simp; rfl)); intro gb230 hg w10 hbox hb; have n0_ := Ext.a (below_step (Ext.nB HB.out) hb); have n1_ := Ext.a (hbox); have n2_ := Ext.a ((by rw [hg]; exact (below_size (Ext.nB HB.out)) : w.heap.size ≤ gb230)); have n3_ := Ext.a ((by rw [hg]; exact (below_size (Ext.nB HB.out)) : w.heap.size ≤ gb230)); clear HB; have HB := n0_; have BK230 := n1_; have GW230 := n2_; have GE230 := n3_; clear n0_ n1_ n2_ n3_; clear hb hbox hg; obtain ⟨hcz11_0, hcz11_1, hcz11_2, hcz11_3⟩ := Ext.cells4 BK230.out; obtain ⟨hfz11_0, hfz11_1, hfz11_2, hfz11_3⟩ := Ext.froz4 BK230.out))
     go_ret
     exact ⟨by first | rfl | (simp [errW_none, errW_some] <;> rfl) | (simp [*, errW_none, errW_some] <;> rfl), by repeat (first | (with_reducible first | exact HB.out | apply Ext.ba | apply Ext.bn | apply Ext.bd | refine Ext.bs ?_ GE230.out) | exact HB.out | exact .refl _ _)⟩
    ·
     rw [if_neg c9] at H
     have c9b0 : (a0_2 == 0) = false := beq_eq_false_iff_ne.mpr c9
     have c9b1 : (a0_2 != 0) = true := bne_iff_ne.mpr c9
     by_cases c12 : a0_2 > 1
     ·
      rw [if_pos c12] at H
      have c12b0 : decide (1 < a0_2) = true := decide_eq_true c12
      clear c12
      obtain rfl := Option.some.inj H
      go_enter Try.func11, Try.ntmps11
      go_wp2_with (first | ((with_reducible refine gate_dst (N := 1) rfl ?_); refine box_event ?hg (N := 1) ?hd (cs := #[.int .u64 a0_0, .int .i64 a0_1, .int .i64 a0_2, .int .i64 a0_3]) (t := 31) ?hr ?_; (case hd => rfl); (case hg => rfl); (case hr => first | (go_simp; done) | (go_simp; rfl)); intro gb230 hg w13 hbox hb; have n0_ := Ext.a (below_step (Ext.nB HB.out) hb); have n1_ := Ext.a (hbox); have n2_ := Ext.a ((by rw [hg]; exact (below_size (Ext.nB HB.out)) : w.heap.size ≤ gb230)); have n3_ := Ext.a ((by rw [hg]; exact (below_size (Ext.nB HB.out)) : w.heap.size ≤ gb230)); clear HB; have HB := n0_; have BK230 := n1_; have GW230 := n2_; have GE230 := n3_; clear n0_ n1_ n2_ n3_; clear hb hbox hg; obtain ⟨hcz14_0, hcz14_1, hcz14_2, hcz14_3⟩ := Ext.cells4 BK230.out; obtain ⟨hfz14_0, hfz14_1, hfz14_2, hfz14_3⟩ := Ext.froz4 BK230.out))
      go_ret
      exact ⟨by first | rfl | (simp [errW_none, errW_some] <;> rfl) | (simp [*, errW_none, errW_some] <;> rfl), by repeat (first | (with_reducible first | exact HB.out | apply Ext.ba | apply Ext.bn | apply Ext.bd | refine Ext.bs ?_ GE230.out) | exact HB.out | exact .refl _ _)⟩
     ·
      rw [if_neg c12] at H
      have c12b0 : decide (1 < a0_2) = false := decide_eq_false c12
      clear c12
      obtain rfl := Option.some.inj H
      go_enter Try.func11, Try.ntmps11
      go_wp2_with (first | ((with_reducible refine gate_dst (N := 1) rfl ?_); refine box_event ?hg (N := 1) ?hd (cs := #[.int .u64 a0_0, .int .i64 a0_1, .int .i64 a0_2, .int .i64 a0_3]) (t := 31) ?hr ?_; (case hd => rfl); (case hg => rfl); (case hr => first | (go_simp; done) | (go_simp; rfl)); intro gb230 hg w15 hbox hb; have n0_ := Ext.a (below_step (Ext.nB HB.out) hb); have n1_ := Ext.a (hbox); have n2_ := Ext.a ((by rw [hg]; exact (below_size (Ext.nB HB.out)) : w.heap.size ≤ gb230)); have n3_ := Ext.a ((by rw [hg]; exact (below_size (Ext.nB HB.out)) : w.heap.size ≤ gb230)); clear HB; have HB := n0_; have BK230 := n1_; have GW230 := n2_; have GE230 := n3_; clear n0_ n1_ n2_ n3_; clear hb hbox hg; obtain ⟨hcz16_0, hcz16_1, hcz16_2, hcz16_3⟩ := Ext.cells4 BK230.out; obtain ⟨hfz16_0, hfz16_1, hfz16_2, hfz16_3⟩ := Ext.froz4 BK230.out))
      go_ret
      exact ⟨by first | rfl | (simp [errW_none, errW_some] <;> rfl) | (simp [*, errW_none, errW_some] <;> rfl), by repeat (first | (with_reducible first | exact HB.out | apply Ext.ba | apply Ext.bn | apply Ext.bd | refine Ext.bs ?_ GE230.out) | exact HB.out | exact .refl _ _)⟩
   ·
    rw [if_neg c8] at H
    have c8b0 : (a0_1 == 0) = false := beq_eq_false_iff_ne.mpr c8
    have c8b1 : (a0_1 != 0) = true := bne_iff_ne.mpr c8
    by_cases c17 : a0_1 > 1
    ·
     rw [if_pos c17] at H
     have c17b0 : decide (1 < a0_1) = true := decide_eq_true c17
     clear c17
     by_cases c18 : a0_1 < a0_3
     ·
      rw [if_pos c18] at H
      have c18b0 : decide (a0_1 < a0_3) = true := decide_eq_true c18
      clear c18
      by_cases c19 : a0_2 = 0
      ·
       rw [if_pos c19] at H
       have c19b0 : (a0_2 == 0) = true := beq_iff_eq.mpr c19
       have c19b1 : (a0_2 != 0) = false := bne_eq_false_iff_eq.mpr c19
       clear c19
       obtain rfl := Option.some.inj H
       go_enter Try.func11, Try.ntmps11
       go_wp2_with (first | ((with_reducible refine gate_dst (N := 1) rfl ?_); refine box_event ?hg (N := 1) ?hd (cs := #[.int .u64 a0_0, .int .i64 a0_1, .int .i64 a0_2, .int .i64 a0_3]) (t := 31) ?hr ?_; (case hd => rfl); (case hg => rfl); (case hr => first | (go_simp; done) | (go_simp; rfl)); intro gb230 hg w20 hbox hb; have n0_ := Ext.a (below_step (Ext.nB HB.out) hb); have n1_ := Ext.a (hbox); have n2_ := Ext.a ((by rw [hg]; exact (below_size (Ext.nB HB.out)) : w.heap.size ≤ gb230)); have n3_ := Ext.a ((by rw [hg]; exact (below_size (Ext.nB HB.out)) : w.heap.size ≤ gb230)); clear HB; have HB := n0_; have BK230 := n1_; have GW230 := n2_; have GE230 := n3_; clear n0_ n1_ n2_ n3_; clear hb hbox hg; obtain ⟨hcz21_0, hcz21_1, hcz21_2, hcz21_3⟩ := Ext.cells4 BK230.out; obtain ⟨hfz21_0, hfz21_1, hfz21_2, hfz21_3⟩ := Ext.froz4 BK230.out))
       go_ret
       exact ⟨by first | rfl | (simp [errW_none, errW_some] <;> rfl) | (simp [*, errW_none, errW_some] <;> rfl), by repeat (first | (with_reducible first | exact HB.out | apply Ext.ba | apply Ext.bn | apply Ext.bd | refine Ext.bs ?_ GE230.out) | exact HB.out | exact .refl _ _)⟩
      ·
       rw [if_neg c19] at H
       have c19b0 : (a0_2 == 0) = false := beq_eq_false_iff_ne.mpr c19
       have c19b1 : (a0_2 != 0) = true := bne_iff_ne.mpr c19
       by_cases c22 : a0_2 > 1
       ·
        rw [if_pos c22] at H
        have c22b0 : decide (1 < a0_2) = true := decide_eq_true c22
        clear c22
        obtain rfl := Option.some.inj H
        go_enter Try.func11, Try.ntmps11
        go_wp2_with (first | ((with_reducible refine gate_dst (N := 1) rfl ?_); refine box_event ?hg (N := 1) ?hd (cs := #[.int .u64 a0_0, .int .i64 a0_1, .int .i64 a0_2, .int .i64 a0_3]) (t := 31) ?hr ?_; (case hd => rfl); (case hg => rfl); (case hr => first | (go_simp; done) | (go_simp; rfl)); intro gb230 hg w23 hbox hb; have n0_ := Ext.a (below_step (Ext.nB HB.out) hb); have n1_ := Ext.a (hbox); have n2_ := Ext.a ((by rw [hg]; exact (below_size (Ext.nB HB.out)) : w.heap.size ≤ gb230)); have n3_ := Ext.a ((by rw [hg]; exact (below_size (Ext.nB HB.out)) : w.heap.size ≤ gb230)); clear HB; have HB := n0_; have BK230 := n1_; have GW230 := n2_; have GE230 := n3_; clear n0_ n1_ n2_ n3_; clear hb hbox hg; obtain ⟨hcz24_0, hcz24_1, hcz24_2, hcz24_3⟩ := Ext.cells4 BK230.out; obtain ⟨hfz24_0, hfz24_1, hfz24_2, hfz24_3⟩ := Ext.froz4 BK230.out))
        go_ret
        exact ⟨by first | rfl | (simp [errW_none, errW_some] <;> rfl) | (simp [*, errW_none, errW_some] <;> rfl), by repeat (first | (with_reducible first | exact HB.out | apply Ext.ba | apply Ext.bn | apply Ext.bd | refine Ext.bs ?_ GE230.out) | exact HB.out | exact .refl _ _)⟩
       ·
        rw [if_neg c22] at H
        have c22b0 : decide (1 < a0_2) = false := decide_eq_false c22
        clear c22
        obtain rfl := Option.some.inj H
        go_enter Try.func11, Try.ntmps11
        go_wp2_with (first | ((with_reducible refine gate_dst (N := 1) rfl ?_); refine box_event ?hg (N := 1) ?hd (cs := #[.int .u64 a0_0, .int .i64 a0_1, .int .i64 a0_2, .int .i64 a0_3]) (t := 31) ?hr ?_; (case hd => rfl); (case hg => rfl); (case hr => first | (go_simp; done) | (go_simp; rfl)); intro gb230 hg w25 hbox hb; have n0_ := Ext.a (below_step (Ext.nB HB.out) hb); have n1_ := Ext.a (hbox); have n2_ := Ext.a ((by rw [hg]; exact (below_size (Ext.nB HB.out)) : w.heap.size ≤ gb230)); have n3_ := Ext.a ((by rw [hg]; exact (below_size (Ext.nB HB.out)) : w.heap.size ≤ gb230)); clear HB; have HB := n0_; have BK230 := n1_; have GW230 := n2_; have GE230 := n3_; clear n0_ n1_ n2_ n3_; clear hb hbox hg; obtain ⟨hcz26_0, hcz26_1, hcz26_2, hcz26_3⟩ := Ext.cells4 BK230.out; obtain ⟨hfz26_0, hfz26_1, hfz26_2, hfz26_3⟩ := Ext.froz4 BK230.out))
        go_ret
        exact ⟨by first | rfl | (simp [errW_none, errW_some] <;> rfl) | (simp [*, errW_none, errW_some] <;> rfl), by repeat (first | (with_reducible first | exact HB.out | apply Ext.ba | apply Ext.bn | apply Ext.bd | refine Ext.bs ?_ GE230.out) | exact HB.out | exact .refl _ _)⟩
     ·
      rw [if_neg c18] at H
      have c18b0 : decide (a0_1 < a0_3) = false := decide_eq_false c18
      clear c18
      obtain rfl := Option.some.inj H
      go_enter Try.func11, Try.ntmps11
      go_wp2_with (first | ((with_reducible refine gate_dst (N := 1) rfl ?_); refine box_event ?hg (N := 1) ?hd (cs := #[.int .u64 a0_0, .int .i64 a0_1, .int .i64 a0_2, .int .i64 a0_3]) (t := 31) ?hr ?_; (case hd => rfl); (case hg => rfl); (case hr => first | (go_simp; done) | (go_simp; rfl)); intro gb230 hg w27 hbox hb; have n0_ := Ext.a (below_step (Ext.nB HB.out) hb); have n1_ := Ext.a (hbox); have n2_ := Ext.a ((by rw [hg]; exact (below_size (Ext.nB HB.out)) : w.heap.size ≤ gb230)); have n3_ := Ext.a ((by rw [hg]; exact (below_size (Ext.nB HB.out)) : w.heap.size ≤ gb230)); clear HB; have HB := n0_; have BK230 := n1_; have GW230 := n2_; have GE230 := n3_; clear n0_ n1_ n2_ n3_; clear hb hbox hg; obtain ⟨hcz28_0, hcz28_1, hcz28_2, hcz28_3⟩ := Ext.cells4 BK230.out; obtain ⟨hfz28_0, hfz28_1, hfz28_2, hfz28_3⟩ := Ext.froz4 BK230.out))
      go_ret
      exact ⟨by first | rfl | (simp [errW_none, errW_some] <;> rfl) | (simp [*, errW_none, errW_some] <;> rfl), by repeat (first | (with_reducible first | exact HB.out | apply Ext.ba | apply Ext.bn | apply Ext.bd | refine Ext.bs ?_ GE230.out) | exact HB.out | exact .refl _ _)⟩
    ·
     rw [if_neg c17] at H
     have c17b0 : decide (1 < a0_1) = false := decide_eq_false c17
     clear c17
     obtain rfl := Option.some.inj H
     go_enter Try.func11, Try.ntmps11
     go_wp2_with (first | ((with_reducible refine gate_dst (N := 1) rfl ?_); refine box_event ?hg (N := 1) ?hd (cs := #[.int .u64 a0_0, .int .i64 a0_1, .int .i64 a0_2, .int .i64 a0_3]) (t := 31) ?hr ?_; (case hd => rfl); (case hg => rfl); (case hr => first | (go_simp; done) | (go_simp; rfl)); intro gb230 hg w29 hbox hb; have n0_ := Ext.a (below_step (Ext.nB HB.out) hb); have n1_ := Ext.a (hbox); have n2_ := Ext.a ((by rw [hg]; exact (below_size (Ext.nB HB.out)) : w.heap.size ≤ gb230)); have n3_ := Ext.a ((by rw [hg]; exact (below_size (Ext.nB HB.out)) : w.heap.size ≤ gb230)); clear HB; have HB := n0_; have BK230 := n1_; have GW230 := n2_; have GE230 := n3_; clear n0_ n1_ n2_ n3_; clear hb hbox hg; obtain ⟨hcz30_0, hcz30_1, hcz30_2, hcz30_3⟩ := Ext.cells4 BK230.out; obtain ⟨hfz30_0, hfz30_1, hfz30_2, hfz30_3⟩ := Ext.froz4 BK230.out))
     go_ret
     exact ⟨by first | rfl | (simp [errW_none, errW_some] <;> rfl) | (simp [*, errW_none, errW_some] <;> rfl), by repeat (first | (with_reducible first | exact HB.out | apply Ext.ba | apply Ext.bn | apply Ext.bd | refine Ext.bs ?_ GE230.out) | exact HB.out | exact .refl _ _)⟩



/-! ### terrierref01_Same: function 14 -/
def terrierref01_Same.f (l0 : List Int) (l1 : List Int) : Option (Bool) := some ((strOfNums l0).toList == (strOfNums l1).toList)
set_option maxHeartbeats 8000000 in
set_option maxRecDepth 100000 in
theorem terrierref01_Same.calls (A0 : Option Addr) (c0 : Nat) (l0 : List Int) (A1 : Option Addr) (c1 : Nat) (l1 : List Int) (r : Bool) (w : World) (hr0 : Kd.C (Kd.int .u8) w A0 l0.length l0) (hc0 : l0.length ≤ c0) (hr1 : Kd.C (Kd.int .u8) w A1 l1.length l1) (hc1 : l1.length ≤ c1) (h : terrierref01_Same.f l0 l1 = some r) :
  Calls Try.prog 14 #[.slice A0 l0.length c0, .slice A1 l1.length c1] w fun e w' => e = .returned (.bool r) ∧ Drawn0 w w' := by
 have HR0 := Aside0.mk hr0
 have HC0 := Aside0.mk hc0
 clear hr0 hc0
 have HR1 := Aside0.mk hr1
 have HC1 := Aside0.mk hc1
 clear hr1 hc1
 have H : (some ((strOfNums l0).toList == (strOfNums l1).toList)) = some r := h
 clear h
 obtain rfl := Option.some.inj H
 have hcv3 := Kd.C_string (P := Try.prog) (A := A0) (c := c0) Try.underlying26 Try.underlying5 Try.underlying9 HR0.out
 have hcv4 := Kd.C_string (P := Try.prog) (A := A1) (c := c1) Try.underlying26 Try.underlying5 Try.underlying9 HR1.out
 go_enter Try.func14, Try.ntmps14
 go_wp2
 go_ret
 exact ⟨by first | rfl | (simp; done) | (simp [*]; done), by repeat (first | exact Drawn0.refl _ | apply Drawn0.step)⟩

end Go.Proofs.Ytfkihcdonddcoaa.PC
