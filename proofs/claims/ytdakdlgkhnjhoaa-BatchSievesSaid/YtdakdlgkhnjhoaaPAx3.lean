-- Written by wip/printx.py, a program of this work over the kit's print, for this claim.
import Derived.Test.YtdakdlgkhnjhoaaPAx0
import Derived.Test.YtdakdlgkhnjhoaaPAx1
import Derived.Test.YtdakdlgkhnjhoaaPAx2
namespace Go.Proofs.Ytdakdlgkhnjhoaa.PA
open Go.RowKit Go.Proofs.YtdakdlgkhnjhoaaW.PrintWords Go.Proofs.YtdakdlgkhnjhoaaW.PrintLast Go.Proofs.YtdakdlgkhnjhoaaW.PrintMore
attribute [local go_sem] max2_int min2_int max_two min_two max_three min_three max_four min_four   -- for this text's walks alone
attribute [local go_sem] Ext.pick_u8 Ext.pick_u32 Ext.pick_u64
set_option linter.unusedVariables false
set_option linter.unusedSimpArgs false



/-! ### batch_twins: function 30 -/
def batch_twins.l0 : Nat → List (S38) → List (S38) → Int → Int → Option ((List (S38)))
 | 0, _, _, _, _ => none
 | k + 1, x3, x6, x7, x8 => if x8 < x7 then (if 0 ≤ x8 then (if x8 < (x6.length : Int) then ((batch_twin.f ((rd_T38 x6 x8).f0) ((rd_T38 x6 x8).f1.f0) ((rd_T38 x6 x8).f1.f1) ((rd_T38 x6 x8).f1.f2) ((rd_T38 x6 x8).f1.f3) ((rd_T38 x6 x8).f1.f4) ((rd_T38 x6 x8).f1.f5) ((rd_T38 x6 x8).f2) ((rd_T38 x6 x8).f3.f0) ((rd_T38 x6 x8).f3.f1) ((rd_T38 x6 x8).f3.f2) ((rd_T38 x6 x8).f3.f3) ((rd_T38 x6 x8).f3.f4) ((rd_T38 x6 x8).f3.f5)).bind fun bt135 => (if x3.length < 799644820200 then (batch_twins.l0 k (x3 ++ [(⟨bt135.1, (⟨bt135.2.1, bt135.2.2.1, bt135.2.2.2.1, bt135.2.2.2.2.1, bt135.2.2.2.2.2.1, bt135.2.2.2.2.2.2.1⟩ : S36), bt135.2.2.2.2.2.2.2.1, (⟨bt135.2.2.2.2.2.2.2.2.1, bt135.2.2.2.2.2.2.2.2.2.1, bt135.2.2.2.2.2.2.2.2.2.2.1, bt135.2.2.2.2.2.2.2.2.2.2.2.1, bt135.2.2.2.2.2.2.2.2.2.2.2.2.1, bt135.2.2.2.2.2.2.2.2.2.2.2.2.2⟩ : S36)⟩ : S38)]) x6 x7 (wrap64 (x8 + 1))) else (none))) else (none)) else (none)) else (some x3)
def batch_twins.f (k : Nat) (l0 : List (S38)) : Option ((List (S38))) := batch_twins.l0 k ([] : List (S38)) l0 (l0.length : Int) 0
theorem batch_twins.mono_l : ∀ k, (∀ y0 y1 y2 y3, LeO (batch_twins.l0 k y0 y1 y2 y3) (batch_twins.l0 (k + 1) y0 y1 y2 y3))
 | 0 => fun _ _ _ _ r h => by simp [batch_twins.l0] at h
 | k + 1 => by
  have ih0 := batch_twins.mono_l k
  ·
   intro y0 y1 y2 y3
   unfold batch_twins.l0
   repeat' first
   | (with_reducible exact ih0 _ _ _ _)
   | (with_reducible exact LeO.refl _)
   | (with_reducible exact LeO.none _)
   | (with_reducible refine LeO.ite ?_ ?_)
   | (with_reducible refine LeO.bind ?_ (fun _ => ?_))
   | exact ih0 _ _ _ _
   | exact LeO.none _
   | refine LeO.ite ?_ ?_
   | refine LeO.bind ?_ (fun _ => ?_)
theorem batch_twins.mono : ∀ a0 k, LeO (batch_twins.f k a0) (batch_twins.f (k + 1) a0) := by
 intro a0 k
 have ih0 := batch_twins.mono_l k
 unfold batch_twins.f
 repeat' first
   | (with_reducible exact ih0 _ _ _ _)
   | (with_reducible exact LeO.refl _)
   | (with_reducible exact LeO.none _)
   | (with_reducible refine LeO.ite ?_ ?_)
   | (with_reducible refine LeO.bind ?_ (fun _ => ?_))
   | exact ih0 _ _ _ _
   | exact LeO.none _
   | refine LeO.ite ?_ ?_
   | refine LeO.bind ?_ (fun _ => ?_)
set_option maxHeartbeats 8000000 in
set_option maxRecDepth 100000 in
theorem batch_twins.calls (k : Nat) (A0 : Option Addr) (c0 : Nat) (l0 : List (S38)) (r : List (S38)) (w : World) (hr0 : Kd.C k38 w A0 l0.length l0) (hc0 : l0.length ≤ c0) (h : batch_twins.f k l0 = some r) :
  Calls Try.prog 30 #[.slice A0 l0.length c0] w fun e w' => ∃ v0_ : Value, e = .returned (v0_) ∧ Kd.S k38 38 w' w.heap.size (fun _ => True) v0_ r ∧ Below w.heap.size w w' := by
 have hu38 := Try.underlying38
 have HR0 := Aside0.mk hr0
 have HC0 := Aside0.mk hc0
 clear hr0 hc0
 have HB := Ext.a (Below.refl w.heap.size w)
 have H : (batch_twins.l0 k ([] : List (S38)) l0 (l0.length : Int) 0) = some r := h
 clear h
 have H' := Aside0.mk H
 clear H
 go_enter Try.func30, Try.ntmps30
 go_wp2
 go_loopg [3, 8] k (fun kq v3 v8 w' => ∃ (x3_1 : List (S38)) (x8_1 : Int), v8 = .int .i64 x8_1 ∧ Aside0 (batch_twins.l0 kq x3_1 l0 (l0.length : Int) x8_1 = some r) ∧ Aside0 (kq ≤ k) ∧ Aside0 (Kd.S k38 38 w' w.heap.size (fun _ => True) v3 x3_1) ∧ Aside0 (Below w.heap.size w w'))
 case atStart => exact ⟨(([] : List (S38))), (0), (by first | rfl | (simp; done) | (simp [*]; done)), H', ⟨Nat.le_refl _⟩, ⟨by first | exact Kd.S_nil _ _ _ _ _ | exact Kd.N_nil _ _ _ _ _ | exact Kd.V_nil _ _ _ _ _ | exact Kd.Q_nil _ _ _ _ _ | exact Kd.R_nil _ _ _ _ _⟩, ⟨by repeat (first | (with_reducible first | exact HB.out | apply Ext.ba | apply Ext.bn | apply Ext.bd) | exact HB.out | exact .refl _ _)⟩⟩
 case round =>
  clear H'
  obtain ⟨x3_1, x8_1, rfl, HA, HK1, HO_3, HB⟩ := hrel
  cases gk with
  | zero => exact absurd HA.out (by simp [batch_twins.l0])
  | succ k1 =>
   have H := HA.out
   clear HA
   simp only [batch_twins.l0] at H
   by_cases c2 : x8_1 < (l0.length : Int)
   ·
    rw [if_pos c2] at H
    have c2b0 : decide (x8_1 < (l0.length : Int)) = true := decide_eq_true c2
    clear c2
    by_cases c3 : 0 ≤ x8_1
    ·
     rw [if_pos c3] at H
     have c3b0 : decide (0 ≤ x8_1) = true := decide_eq_true c3
     clear c3
     by_cases c4 : x8_1 < (l0.length : Int)
     ·
      rw [if_pos c4] at H
      have c4b0 : decide (x8_1 < (l0.length : Int)) = true := decide_eq_true c4
      clear c4
      replace H := Option.bind_eq_some_iff.mp H
      obtain ⟨⟨t135, t136, t139, t142, t143, t144, t145, t146, t147, t150, t153, t154, t155, t156⟩, A50, H⟩ := H
      replace H : (if x3_1.length < 799644820200 then (batch_twins.l0 k1 (x3_1 ++ [(⟨t135, (⟨t136, t139, t142, t143, t144, t145⟩ : S36), t146, (⟨t147, t150, t153, t154, t155, t156⟩ : S36)⟩ : S38)]) l0 (l0.length : Int) (wrap64 (x8_1 + 1))) else (none)) = some r := H
      have A5 := Aside0.mk A50
      clear A50
      by_cases c6 : x3_1.length < 799644820200
      ·
       rw [if_pos c6] at H
       have LMc6 := Aside0.mk c6
       clear c6
       obtain ⟨y157, hy157⟩ : ∃ y_ : List (S38), y_ = (x3_1 ++ [(⟨t135, (⟨t136, t139, t142, t143, t144, t145⟩ : S36), t146, (⟨t147, t150, t153, t154, t155, t156⟩ : S36)⟩ : S38)]) := ⟨_, rfl⟩
       replace H : (batch_twins.l0 k1 y157 l0 (l0.length : Int) (wrap64 (x8_1 + 1))) = some r := by first | (rw [hy157]; with_reducible exact H) | (have H2_ := (Option.bind_some _ _).symm.trans H; rw [hy157]; with_reducible exact H2_) | (have H2_ := (Option.bind_some _ _).symm.trans H; with_reducible exact H2_) | with_reducible exact H | (rw [hy157]; exact H) | exact H
       have Ny157 := Aside0.mk hy157
       clear hy157
       have H' := Aside0.mk H
       clear H
       have p133 : 0 ≤ (x8_1 : Int) := of_decide_eq_true (by first | (with_reducible assumption) | assumption)
       have q133 : x8_1 < (l0.length : Int) := of_decide_eq_true (by first | (with_reducible assumption) | assumption)
       obtain ⟨ad133, A133_1, c133_1, A133_2, c133_2, A133_8, c133_8, A133_9, c133_9, e133, hx133_0, hx133_1, hx133_2, hx133_3, hx133_4, hx133_5, hx133_6, hx133_7, hx133_8, hx133_9, hx133_10, hx133_11, hx133_12, hx133_13, hl133_1, hi133_1, hl133_2, hi133_2, hl133_8, hi133_8, hl133_9, hi133_9⟩ := at_T38 HR0.out x8_1 p133 q133
       cases e133
       replace hx133_0 := (HB.out.cell (World.block_lt_of_cell? w _ hx133_0)).trans hx133_0
       replace hx133_1 := (HB.out.cell (World.block_lt_of_cell? w _ hx133_1)).trans hx133_1
       replace hx133_2 := (HB.out.cell (World.block_lt_of_cell? w _ hx133_2)).trans hx133_2
       replace hx133_3 := (HB.out.cell (World.block_lt_of_cell? w _ hx133_3)).trans hx133_3
       replace hx133_4 := (HB.out.cell (World.block_lt_of_cell? w _ hx133_4)).trans hx133_4
       replace hx133_5 := (HB.out.cell (World.block_lt_of_cell? w _ hx133_5)).trans hx133_5
       replace hx133_6 := (HB.out.cell (World.block_lt_of_cell? w _ hx133_6)).trans hx133_6
       replace hx133_7 := (HB.out.cell (World.block_lt_of_cell? w _ hx133_7)).trans hx133_7
       replace hx133_8 := (HB.out.cell (World.block_lt_of_cell? w _ hx133_8)).trans hx133_8
       replace hx133_9 := (HB.out.cell (World.block_lt_of_cell? w _ hx133_9)).trans hx133_9
       replace hx133_10 := (HB.out.cell (World.block_lt_of_cell? w _ hx133_10)).trans hx133_10
       replace hx133_11 := (HB.out.cell (World.block_lt_of_cell? w _ hx133_11)).trans hx133_11
       replace hx133_12 := (HB.out.cell (World.block_lt_of_cell? w _ hx133_12)).trans hx133_12
       replace hx133_13 := (HB.out.cell (World.block_lt_of_cell? w _ hx133_13)).trans hx133_13
       have HR133_1 := Aside0.mk hi133_1
       have HC133_1 := Aside0.mk hl133_1
       clear hi133_1 hl133_1
       have HR133_2 := Aside0.mk hi133_2
       have HC133_2 := Aside0.mk hl133_2
       clear hi133_2 hl133_2
       have HR133_8 := Aside0.mk hi133_8
       have HC133_8 := Aside0.mk hl133_8
       clear hi133_8 hl133_8
       have HR133_9 := Aside0.mk hi133_9
       have HC133_9 := Aside0.mk hl133_9
       clear hi133_9 hl133_9
       replace p133 := eq_true p133
       replace q133 := eq_true q133
       go_wp2_with (first | ((with_reducible refine gate_dst (N := 11) rfl ?_); refine Ext.struct_load (hgd := ?hg) (t := 38) (x := ?vx_11) (ho := ?ho) (cs := [.int .i64 ((rd_T38 l0 x8_1).f0), .slice A133_1 ((rd_T38 l0 x8_1).f1.f0).length c133_1, .slice A133_2 ((rd_T38 l0 x8_1).f1.f1).length c133_2, .int .i64 ((rd_T38 l0 x8_1).f1.f2), .int .i64 ((rd_T38 l0 x8_1).f1.f3), .int .i64 ((rd_T38 l0 x8_1).f1.f4), .int .i64 ((rd_T38 l0 x8_1).f1.f5), .bool ((rd_T38 l0 x8_1).f2), .slice A133_8 ((rd_T38 l0 x8_1).f3.f0).length c133_8, .slice A133_9 ((rd_T38 l0 x8_1).f3.f1).length c133_9, .int .i64 ((rd_T38 l0 x8_1).f3.f2), .int .i64 ((rd_T38 l0 x8_1).f3.f3), .int .i64 ((rd_T38 l0 x8_1).f3.f4), .int .i64 ((rd_T38 l0 x8_1).f3.f5)]) (haddr := ?ha) Try.underlying38 rfl (by kernel_rfl) ⟨hx133_0, hx133_1, hx133_2, hx133_3, hx133_4, hx133_5, hx133_6, hx133_7, hx133_8, hx133_9, hx133_10, hx133_11, hx133_12, hx133_13, trivial⟩ ?_; (case ho => rfl); (case hg => rfl); (case ha => rfl)) | ((with_reducible refine gate_dst (N := 5) rfl ?_); refine Ext.alloc_event (hgd := ?hg) (N := 5) (_hd := ?hd) (t := 38) (ho := ?ho) info38 ?_; (case ho => rfl); (case hd => rfl); (case hg => rfl); intro gb134 hg w7 hbox hb; have n0_ := Ext.a (Kd.S_below (Kd.S_elderB (Ext.nS HO_3.out) gb134 (Nat.le_of_eq hg.symm)) hb); have n1_ := Ext.a (below_step (Ext.nB HB.out) hb); have n2_ := Ext.a (hbox); have n3_ := Ext.a ((by rw [hg]; exact (below_size (Ext.nB HB.out)) : w.heap.size ≤ gb134)); have n4_ := Ext.a ((by rw [hg]; exact (below_size (Ext.nB HB.out)) : w.heap.size ≤ gb134)); clear HO_3 HB; have HO_3 := n0_; have HB := n1_; have BK134 := n2_; have GW134 := n3_; have GE134 := n4_; clear n0_ n1_ n2_ n3_ n4_; clear hb hbox hg; obtain ⟨hcz8_0, hcz8_1, hcz8_2, hcz8_3, hcz8_4, hcz8_5, hcz8_6, hcz8_7, hcz8_8, hcz8_9, hcz8_10, hcz8_11, hcz8_12, hcz8_13⟩ := Ext.cells14 BK134.out; obtain ⟨hfz8_0, hfz8_1, hfz8_2, hfz8_3, hfz8_4, hfz8_5, hfz8_6, hfz8_7, hfz8_8, hfz8_9, hfz8_10, hfz8_11, hfz8_12, hfz8_13⟩ := Ext.froz14 BK134.out) | ((with_reducible refine gate_store (t := 38) (p := 5) rfl ?_); refine Ext.struct_store (hgd := ?hg) (hN := ?hn) (t := 38) (p := .tmp 5) (x := ?vo_w9) (ho := ?ho) (cells := #[.int .i64 ((rd_T38 l0 x8_1).f0), .slice A133_1 ((rd_T38 l0 x8_1).f1.f0).length c133_1, .slice A133_2 ((rd_T38 l0 x8_1).f1.f1).length c133_2, .int .i64 ((rd_T38 l0 x8_1).f1.f2), .int .i64 ((rd_T38 l0 x8_1).f1.f3), .int .i64 ((rd_T38 l0 x8_1).f1.f4), .int .i64 ((rd_T38 l0 x8_1).f1.f5), .bool ((rd_T38 l0 x8_1).f2), .slice A133_8 ((rd_T38 l0 x8_1).f3.f0).length c133_8, .slice A133_9 ((rd_T38 l0 x8_1).f3.f1).length c133_9, .int .i64 ((rd_T38 l0 x8_1).f3.f2), .int .i64 ((rd_T38 l0 x8_1).f3.f3), .int .i64 ((rd_T38 l0 x8_1).f3.f4), .int .i64 ((rd_T38 l0 x8_1).f3.f5)]) (haddr := ?ha) (hx := ?hx) BK134.out rfl (by kernel_rfl) rfl ?_; (case ho => rfl); (case hg => rfl); (case hn => rfl); (case ha => rfl); (case hx => first | rfl | (go_simp; done)); intro w9 hx_ hk_ hbl_; have n0_ := Ext.a (Kd.S_mono (Kd.S_keep (Kd.S_mono (ok := fun k_ => (True ∧ k_ ≠ gb134)) HO_3.out (fun k_ hk_ => (⟨hk_, hk_.2⟩ : _ ∧ k_ ≠ gb134))) hk_ (fun _ h => h.2)) (fun _ h => h.1)); have n1_ := Ext.a (hx_); have n2_ := Ext.a (hbl_ _ _ HB.out GE134.out); clear HO_3 BK134 HB; have HO_3 := n0_; have BK134 := n1_; have HB := n2_; clear n0_ n1_ n2_; clear hx_ hk_ hbl_; obtain ⟨hcz10_0, hcz10_1, hcz10_2, hcz10_3, hcz10_4, hcz10_5, hcz10_6, hcz10_7, hcz10_8, hcz10_9, hcz10_10, hcz10_11, hcz10_12, hcz10_13⟩ := Ext.cells14 BK134.out; obtain ⟨hfz10_0, hfz10_1, hfz10_2, hfz10_3, hfz10_4, hfz10_5, hfz10_6, hfz10_7, hfz10_8, hfz10_9, hfz10_10, hfz10_11, hfz10_12, hfz10_13⟩ := Ext.froz14 BK134.out) | ((with_reducible refine gate_dst (N := 13) rfl ?_); refine Ext.struct_load_blk (hgd := ?hg) (t := 38) (x := ?vx_13) (ho := ?ho) (haddr := ?ha) Try.underlying38 rfl (by kernel_rfl) BK134.out ?_; (case ho => rfl); (case hg => rfl); (case ha => rfl)) | ((with_reducible refine gate_callee (f := 25) rfl ?_); refine goesL_ (some 14) rfl rfl Try.func25 (by kernel_rfl) rfl #[.agg #[.int .i64 ((rd_T38 l0 x8_1).f0), .slice A133_1 ((rd_T38 l0 x8_1).f1.f0).length c133_1, .slice A133_2 ((rd_T38 l0 x8_1).f1.f1).length c133_2, .int .i64 ((rd_T38 l0 x8_1).f1.f2), .int .i64 ((rd_T38 l0 x8_1).f1.f3), .int .i64 ((rd_T38 l0 x8_1).f1.f4), .int .i64 ((rd_T38 l0 x8_1).f1.f5), .bool ((rd_T38 l0 x8_1).f2), .slice A133_8 ((rd_T38 l0 x8_1).f3.f0).length c133_8, .slice A133_9 ((rd_T38 l0 x8_1).f3.f1).length c133_9, .int .i64 ((rd_T38 l0 x8_1).f3.f2), .int .i64 ((rd_T38 l0 x8_1).f3.f3), .int .i64 ((rd_T38 l0 x8_1).f3.f4), .int .i64 ((rd_T38 l0 x8_1).f3.f5)]] rfl (by (try simp only [List.map_toArray, List.map_cons, List.map_nil]); first | done | rfl | (simp only [List.length_drop, List.length_take]; rfl)) ?_; (with_reducible refine (batch_twin.calls ((rd_T38 l0 x8_1).f0) _ _ ((rd_T38 l0 x8_1).f1.f0) _ _ ((rd_T38 l0 x8_1).f1.f1) ((rd_T38 l0 x8_1).f1.f2) ((rd_T38 l0 x8_1).f1.f3) ((rd_T38 l0 x8_1).f1.f4) ((rd_T38 l0 x8_1).f1.f5) ((rd_T38 l0 x8_1).f2) _ _ ((rd_T38 l0 x8_1).f3.f0) _ _ ((rd_T38 l0 x8_1).f3.f1) ((rd_T38 l0 x8_1).f3.f2) ((rd_T38 l0 x8_1).f3.f3) ((rd_T38 l0 x8_1).f3.f4) ((rd_T38 l0 x8_1).f3.f5) t135 t136 t139 t142 t143 t144 t145 t146 t147 t150 t153 t154 t155 t156 _ ?side1 ?side2 ?side3 ?side4 ?side5 ?side6 ?side7 ?side8 A5.out).mono ?_); (case side1 => repeat (first | exact (Kd.C_below HR133_1.out HB.out) | exact HR133_1.out | (with_reducible refine Kd.C_alloc ?_ _) | (with_reducible refine Kd.C_drewN ?_ _) | (with_reducible refine Kd.C_drew ?_))); (case side2 => exact HC133_1.out); (case side3 => repeat (first | exact (Kd.C_below HR133_2.out HB.out) | exact HR133_2.out | (with_reducible refine Kd.C_alloc ?_ _) | (with_reducible refine Kd.C_drewN ?_ _) | (with_reducible refine Kd.C_drew ?_))); (case side4 => exact HC133_2.out); (case side5 => repeat (first | exact (Kd.C_below HR133_8.out HB.out) | exact HR133_8.out | (with_reducible refine Kd.C_alloc ?_ _) | (with_reducible refine Kd.C_drewN ?_ _) | (with_reducible refine Kd.C_drew ?_))); (case side6 => exact HC133_8.out); (case side7 => repeat (first | exact (Kd.C_below HR133_9.out HB.out) | exact HR133_9.out | (with_reducible refine Kd.C_alloc ?_ _) | (with_reducible refine Kd.C_drewN ?_ _) | (with_reducible refine Kd.C_drew ?_))); (case side8 => exact HC133_9.out); rintro e w11 ⟨v137, v140, v148, v151, rfl, ho0, ho1, ho2, ho3, hb⟩; refine ⟨_, rfl, ?_⟩; have n0_ := Ext.a (Kd.S_mono (Kd.S_told (Kd.S_told (Kd.S_told (Kd.S_told (Kd.S_old (Ext.nS HO_3.out) hb) (Kd.R_base ho0)) (Kd.R_base ho1)) (Kd.R_base ho2)) (Kd.R_base ho3)) (fun _ h_ => h_.1)); have n1_ := Ext.a (Kd.R_lower ho0 (below_size (by repeat (first | (with_reducible first | exact HB.out | apply Ext.ba | apply Ext.bn | apply Ext.bd | refine Ext.bs ?_ GE134.out) | exact HB.out | exact .refl _ _)))); have n2_ := Ext.a (Kd.R_lower ho1 (below_size (by repeat (first | (with_reducible first | exact HB.out | apply Ext.ba | apply Ext.bn | apply Ext.bd | refine Ext.bs ?_ GE134.out) | exact HB.out | exact .refl _ _)))); have n3_ := Ext.a (Kd.R_lower ho2 (below_size (by repeat (first | (with_reducible first | exact HB.out | apply Ext.ba | apply Ext.bn | apply Ext.bd | refine Ext.bs ?_ GE134.out) | exact HB.out | exact .refl _ _)))); have n4_ := Ext.a (Kd.R_lower ho3 (below_size (by repeat (first | (with_reducible first | exact HB.out | apply Ext.ba | apply Ext.bn | apply Ext.bd | refine Ext.bs ?_ GE134.out) | exact HB.out | exact .refl _ _)))); have n5_ := Ext.a (blk_below BK134.out hb); have n6_ := Ext.a (below_step (by repeat (first | (with_reducible first | exact HB.out | apply Ext.ba | apply Ext.bn | apply Ext.bd | refine Ext.bs ?_ GE134.out) | exact HB.out | exact .refl _ _)) hb); clear HO_3 BK134 HB; have HO_3 := n0_; have HO138 := n1_; have HO141 := n2_; have HO149 := n3_; have HO152 := n4_; have BK134 := n5_; have HB := n6_; clear n0_ n1_ n2_ n3_ n4_ n5_ n6_; (try clear hb); (try clear hb2); (try clear hk); (try clear hi); (try clear ho0); (try clear ho1); (try clear ho2); (try clear ho3); obtain ⟨Ao13, co13, eo13⟩ := Kd.R_slice HO138.out; subst eo13; obtain ⟨Ao14, co14, eo14⟩ := Kd.R_slice HO141.out; subst eo14; obtain ⟨Ao15, co15, eo15⟩ := Kd.R_slice HO149.out; subst eo15; obtain ⟨Ao16, co16, eo16⟩ := Kd.R_slice HO152.out; subst eo16) | ((with_reducible refine gate_builtin (b := .append) (xs := #[.tmp 12, .tmp 15]) rfl ?_); at_builtin; refine Kd.S_append k38 (w0 := w) w.heap.size rfl (.tmp 12) (.tmp 15) 22 38 (.agg #[(.int .i64 0), (.slice none 0 0), (.slice none 0 0), (.int .i64 0), (.int .i64 0), (.int .i64 0), (.int .i64 0), (.bool false), (.slice none 0 0), (.slice none 0 0), (.int .i64 0), (.int .i64 0), (.int .i64 0), (.int .i64 0)]) 176 rfl Try.underlying22 info38 rfl (by decide) (by omega) u3 x3_1 (⟨t135, (⟨t136, t139, t142, t143, t144, t145⟩ : S36), t146, (⟨t147, t150, t153, t154, t155, t156⟩ : S36)⟩ : S38) [.int .i64 t135, .slice Ao13 t136.length co13, .slice Ao14 t139.length co14, .int .i64 t142, .int .i64 t143, .int .i64 t144, .int .i64 t145, .bool t146, .slice Ao15 t147.length co15, .slice Ao16 t150.length co16, .int .i64 t153, .int .i64 t154, .int .i64 t155, .int .i64 t156] (fun k_ => k_ ≠ gb134) (fun k_ => some k_ = (.slice Ao13 t136.length co13 : Value).ownBlock ∨ some k_ = (.slice Ao14 t139.length co14 : Value).ownBlock ∨ some k_ = (.slice Ao15 t147.length co15 : Value).ownBlock ∨ some k_ = (.slice Ao16 t150.length co16 : Value).ownBlock) rfl rfl ?aP (fun k_ hk_ => hk_.elim (fun h_ => ((Kd.R_mono (ok' := fun k_ => ((fun k_ => k_ ≠ gb134)) k_ ∧ some k_ ≠ (u3 : Value).ownBlock) (Kd.R_types (Kd.R_apart' (HO138.out) (Kd.S_typed HO_3.out) (by decide)) BK134.out (by decide)) (fun k_ hk => ⟨hk.2, hk.1.2⟩))).1 k_ h_.symm) (fun h_ => h_.elim (fun h_ => ((Kd.R_mono (ok' := fun k_ => ((fun k_ => k_ ≠ gb134)) k_ ∧ some k_ ≠ (u3 : Value).ownBlock) (Kd.R_types (Kd.R_apart' (HO141.out) (Kd.S_typed HO_3.out) (by decide)) BK134.out (by decide)) (fun k_ hk => ⟨hk.2, hk.1.2⟩))).1 k_ h_.symm) (fun h_ => h_.elim (fun h_ => ((Kd.R_mono (ok' := fun k_ => ((fun k_ => k_ ≠ gb134)) k_ ∧ some k_ ≠ (u3 : Value).ownBlock) (Kd.R_types (Kd.R_apart' (HO149.out) (Kd.S_typed HO_3.out) (by decide)) BK134.out (by decide)) (fun k_ hk => ⟨hk.2, hk.1.2⟩))).1 k_ h_.symm) (fun h_ => ((Kd.R_mono (ok' := fun k_ => ((fun k_ => k_ ≠ gb134)) k_ ∧ some k_ ≠ (u3 : Value).ownBlock) (Kd.R_types (Kd.R_apart' (HO152.out) (Kd.S_typed HO_3.out) (by decide)) BK134.out (by decide)) (fun k_ hk => ⟨hk.2, hk.1.2⟩))).1 k_ h_.symm)))) ?aF ?aO ?aB ?aS ?aL ?_; (case aP => exact k38_mkM _ _ _ (⟨t135, (⟨t136, t139, t142, t143, t144, t145⟩ : S36), t146, (⟨t147, t150, t153, t154, t155, t156⟩ : S36)⟩ : S38) (Kd.R_mono (Kd.R_tight rfl (Kd.R_mono (ok' := fun k_ => ((fun k_ => k_ ≠ gb134)) k_ ∧ some k_ ≠ (u3 : Value).ownBlock) (Kd.R_types (Kd.R_apart' (HO138.out) (Kd.S_typed HO_3.out) (by decide)) BK134.out (by decide)) (fun k_ hk => ⟨hk.2, hk.1.2⟩))) (fun _ h_ => Or.inl h_)) (Kd.R_mono (Kd.R_tight rfl (Kd.R_mono (ok' := fun k_ => ((fun k_ => k_ ≠ gb134)) k_ ∧ some k_ ≠ (u3 : Value).ownBlock) (Kd.R_types (Kd.R_apart' (HO141.out) (Kd.S_typed HO_3.out) (by decide)) BK134.out (by decide)) (fun k_ hk => ⟨hk.2, hk.1.2⟩))) (fun _ h_ => Or.inr (Or.inl h_))) (Kd.R_mono (Kd.R_tight rfl (Kd.R_mono (ok' := fun k_ => ((fun k_ => k_ ≠ gb134)) k_ ∧ some k_ ≠ (u3 : Value).ownBlock) (Kd.R_types (Kd.R_apart' (HO149.out) (Kd.S_typed HO_3.out) (by decide)) BK134.out (by decide)) (fun k_ hk => ⟨hk.2, hk.1.2⟩))) (fun _ h_ => Or.inr (Or.inr (Or.inl h_)))) (Kd.R_mono (Kd.R_tight rfl (Kd.R_mono (ok' := fun k_ => ((fun k_ => k_ ≠ gb134)) k_ ∧ some k_ ≠ (u3 : Value).ownBlock) (Kd.R_types (Kd.R_apart' (HO152.out) (Kd.S_typed HO_3.out) (by decide)) BK134.out (by decide)) (fun k_ hk => ⟨hk.2, hk.1.2⟩))) (fun _ h_ => Or.inr (Or.inr (Or.inr (h_)))))); (case aB => exact (by repeat (first | (with_reducible first | exact HB.out | apply Ext.ba | apply Ext.bn | apply Ext.bd | refine Ext.bs ?_ GE134.out) | exact HB.out | exact .refl _ _))); (case aF => exact (fun k_ hk => Kd.freshB BK134.out k_ hk)); (case aO => exact (Ext.nS (Kd.S_mono HO_3.out (fun k_ hk => ⟨hk.1.1.1.1.2, fun e_ => e_.elim (fun h_ => hk.1.1.1.2 h_) (fun h_ => h_.elim (fun h_ => hk.1.1.2 h_) (fun h_ => h_.elim (fun h_ => hk.1.2 h_) (fun h_ => hk.2 h_)))⟩)))); (case aS => exact (below_size (by repeat (first | (with_reducible first | exact HB.out | apply Ext.ba | apply Ext.bn | apply Ext.bd | refine Ext.bs ?_ GE134.out) | exact HB.out | exact .refl _ _)))); (case aL => have := LMc6.out; omega); intro v158 w12 ho hb hg hat; rw [← Ny157.out] at ho; have n0_ := Ext.a (blk_grown BK134.out hg (Kd.S_away HO_3.out (fun _ hk => hk.1.1.1.1.2))); have n1_ := Ext.a (hb); have n2_ := Ext.a (ho); clear BK134 HB HO_3 HO138 HO141 HO149 HO152; have BK134 := n0_; have HB := n1_; have HO159 := n2_; clear n0_ n1_ n2_; clear ho hb hg hat))
       go_roundg k1
       case measure => have := HK1.out; omega
       case rel => exact ⟨(y157), (wrap64 (x8_1 + 1)), (by first | rfl | (simp; done) | (simp [*]; done)), H', ⟨by have := HK1.out; omega⟩, ⟨by (with_reducible repeat (first | apply Kd.S_alloc | apply Kd.S_drewN | apply Kd.S_drew)); exact Kd.S_mono HO159.out (fun _ hk => trivial)⟩, ⟨by repeat (first | (with_reducible first | exact HB.out | apply Ext.ba | apply Ext.bn | apply Ext.bd | refine Ext.bs ?_ GE134.out) | exact HB.out | exact .refl _ _)⟩⟩
      · rw [if_neg c6] at H; exact absurd H (by simp)
     · rw [if_neg c4] at H; exact absurd H (by simp)
    · rw [if_neg c3] at H; exact absurd H (by simp)
   ·
    rw [if_neg c2] at H
    have c2b0 : decide (x8_1 < (l0.length : Int)) = false := decide_eq_false c2
    clear c2
    obtain rfl := Option.some.inj H
    go_wp2
    go_ret
    exact ⟨_, by first | rfl | (simp [errW_none, errW_some] <;> rfl) | (simp [*, errW_none, errW_some] <;> rfl), by (with_reducible repeat (first | apply Kd.S_alloc | apply Kd.S_drewN | apply Kd.S_drew)); exact HO_3.out, by repeat (first | (with_reducible first | exact HB.out | apply Ext.ba | apply Ext.bn | apply Ext.bd) | exact HB.out | exact .refl _ _)⟩


/-! ### batch_Cut: function 18 -/
def batch_Cut.f (k : Nat) (l0 : List (S38)) (a1 : Int) : Option ((List (S38)) × (List (S38))) := (batch_cut.f k l0 a1).bind fun t160 => (if 0 ≤ t160 then (if t160 ≤ (l0.length : Int) then ((batch_twins.f k (l0.take (t160 : Int).toNat)).bind fun t165 => ((batch_twins.f k (l0.drop (t160 : Int).toNat)).bind fun t172 => (some (t165, t172)))) else (none)) else (none))
theorem batch_Cut.mono : ∀ a0 a1 k, LeO (batch_Cut.f k a0 a1) (batch_Cut.f (k + 1) a0 a1) := by
 intro a0 a1 k
 unfold batch_Cut.f
 repeat' first
   | (with_reducible exact batch_cut.mono _ _ _)
   | (with_reducible exact batch_twins.mono _ _)
   | (with_reducible exact LeO.refl _)
   | (with_reducible exact LeO.none _)
   | (with_reducible refine LeO.ite ?_ ?_)
   | (with_reducible refine LeO.bind ?_ (fun _ => ?_))
   | exact batch_cut.mono _ _ _
   | exact batch_twins.mono _ _
   | exact LeO.none _
   | refine LeO.ite ?_ ?_
   | refine LeO.bind ?_ (fun _ => ?_)
def batch_Cut.T2 : Bool × List (List Nat × List Nat) := (true, [([], []), ([], []), ([], []), ([0, 1, 2], [0, 1, 2]), ([3], [3]), ([], []), ([], []), ([5, 6], [5, 6]), ([7, 4], [7]), ([4, 8, 0, 1, 2, 3, 4], [4]), ([8, 9, 0, 1, 2, 3, 4, 5, 6, 7, 8, 9], [8])])
def batch_Cut.B2 : List Nat := [0, 0, 0, 7, 15, 0, 0, 96, 255, 511, 1023]
theorem batch_Cut.tab2 : rtab .any (opsOf Try.f18 2) = batch_Cut.T2 := by kernel_rfl
theorem batch_Cut.bits2 : waitsOk batch_Cut.T2.2 batch_Cut.B2 = true := by kernel_rfl
set_option maxHeartbeats 8000000 in
set_option maxRecDepth 100000 in
theorem batch_Cut.calls (k : Nat) (A0 : Option Addr) (c0 : Nat) (l0 : List (S38)) (a1 : Int) (r1 : List (S38)) (r2 : List (S38)) (w : World) (hr0 : Kd.C k38 w A0 l0.length l0) (hc0 : l0.length ≤ c0) (h : batch_Cut.f k l0 a1 = some (r1, r2)) :
  Calls Try.prog 18 #[.slice A0 l0.length c0, .int .i64 a1] w fun e w' => ∃ v0_ v1_ : Value, e = .returned (.tuple #[v0_, v1_]) ∧ Kd.S k38 38 w' w.heap.size (fun k_ => some k_ ≠ (v1_ : Value).ownBlock) v0_ r1 ∧ Kd.S k38 38 w' w.heap.size (fun k_ => some k_ ≠ (v0_ : Value).ownBlock) v1_ r2 ∧ Below w.heap.size w w' := by
 have HR0 := Aside0.mk hr0
 have HC0 := Aside0.mk hc0
 clear hr0 hc0
 have HB := Aside0.mk (Below.refl w.heap.size w)
 have H : ((batch_cut.f k l0 a1).bind fun t160 => (if 0 ≤ t160 then (if t160 ≤ (l0.length : Int) then ((batch_twins.f k (l0.take (t160 : Int).toNat)).bind fun t165 => ((batch_twins.f k (l0.drop (t160 : Int).toNat)).bind fun t172 => (some (t165, t172)))) else (none)) else (none))) = some (r1, r2) := h
 clear h
 replace H := Option.bind_eq_some_iff.mp H
 obtain ⟨t160, A30, H⟩ := H
 replace H : (if 0 ≤ t160 then (if t160 ≤ (l0.length : Int) then ((batch_twins.f k (l0.take (t160 : Int).toNat)).bind fun t165 => ((batch_twins.f k (l0.drop (t160 : Int).toNat)).bind fun t172 => (some (t165, t172)))) else (none)) else (none)) = some (r1, r2) := H
 have A3 := Aside0.mk A30
 clear A30
 by_cases c4 : 0 ≤ t160
 ·
  rw [if_pos c4] at H
  have c4b0 := eq_true c4
  have c4b1 : decide (0 ≤ t160) = true := decide_eq_true c4
  clear c4
  by_cases c5 : t160 ≤ (l0.length : Int)
  ·
   rw [if_pos c5] at H
   have c5b0 := eq_true c5
   have c5b1 : decide (t160 ≤ (l0.length : Int)) = true := decide_eq_true c5
   clear c5
   obtain ⟨y161, hy161⟩ : ∃ y_ : List (S38), y_ = (l0.take (t160 : Int).toNat) := ⟨_, rfl⟩
   replace H : ((batch_twins.f k y161).bind fun t165 => ((batch_twins.f k (l0.drop (t160 : Int).toNat)).bind fun t172 => (some (t165, t172)))) = some (r1, r2) := by first | (rw [hy161]; with_reducible exact H) | (have H2_ := (Option.bind_some _ _).symm.trans H; rw [hy161]; with_reducible exact H2_) | (have H2_ := (Option.bind_some _ _).symm.trans H; with_reducible exact H2_) | with_reducible exact H | (rw [hy161]; exact H) | exact H
   have Ny161 := Aside0.mk hy161
   clear hy161
   replace H := Option.bind_eq_some_iff.mp H
   obtain ⟨t165, A60, H⟩ := H
   replace H : ((batch_twins.f k (l0.drop (t160 : Int).toNat)).bind fun t172 => (some (t165, t172))) = some (r1, r2) := H
   have A6 := Aside0.mk A60
   clear A60
   have c7b0 := eq_true (of_decide_eq_true (by first | (with_reducible assumption) | assumption) : 0 ≤ t160)
   have c8b0 := eq_true (of_decide_eq_true (by first | (with_reducible assumption) | assumption) : t160 ≤ (l0.length : Int))
   obtain ⟨y168, hy168⟩ : ∃ y_ : List (S38), y_ = (l0.drop (t160 : Int).toNat) := ⟨_, rfl⟩
   replace H : ((batch_twins.f k y168).bind fun t172 => (some (t165, t172))) = some (r1, r2) := by first | (rw [hy168]; with_reducible exact H) | (have H2_ := (Option.bind_some _ _).symm.trans H; rw [hy168]; with_reducible exact H2_) | (have H2_ := (Option.bind_some _ _).symm.trans H; with_reducible exact H2_) | with_reducible exact H | (rw [hy168]; exact H) | exact H
   have Ny168 := Aside0.mk hy168
   clear hy168
   replace H := Option.bind_eq_some_iff.mp H
   obtain ⟨t172, A90, H⟩ := H
   replace H : (some (t165, t172)) = some (r1, r2) := H
   have A9 := Aside0.mk A90
   clear A90
   simp only [Option.some.injEq, Prod.mk.injEq] at H
   obtain ⟨rfl, rfl⟩ := H
   go_enter Try.func18, Try.ntmps18
   try go_wp2_with (first | ((with_reducible refine gate_callee (f := 29) rfl ?_); refine goesL_ (some 9) rfl rfl Try.func29 (by kernel_rfl) rfl #[.slice A0 l0.length c0, .int .i64 a1] rfl (by (try simp only [List.map_toArray, List.map_cons, List.map_nil]); first | done | rfl | (simp only [List.length_drop, List.length_take]; rfl)) ?_; (with_reducible refine (batch_cut.calls k _ _ l0 a1 t160 _ ?side1 ?side2 A3.out).mono ?_); (case side1 => repeat (first | exact HR0.out | exact HR0.out | (with_reducible refine Kd.C_alloc ?_ _) | (with_reducible refine Kd.C_drewN ?_ _) | (with_reducible refine Kd.C_drew ?_))); (case side2 => exact HC0.out); rintro e w' ⟨rfl, ⟨nd, rfl⟩⟩; refine ⟨_, rfl, ?_⟩))
   have n0_ := Aside0.mk (below_drew1 HB.out)
   clear HB
   have HB := n0_
   clear n0_
   have q11 : (t160 : Int) ≤ ((l0.length : Int) : Int) := of_decide_eq_true (by first | (with_reducible assumption) | assumption)
   obtain ⟨i011, hi011, _, hsz11, _⟩ := info_parts info38
   have hroom11 : l0.length ≤ c0 := HC0.out
   have hC11 : Kd.C k38 _ A0 l0.length l0 := HR0.out
   have hcut11 := Ext.cut_to3 (P := Try.prog) 22 38 .i64 Try.underlying22 hi011 A0 l0.length c0 t160 (of_decide_eq_true (by first | (with_reducible assumption) | assumption)) q11 hroom11
   have hr11 := Kd.C_take (m := (t160 : Int).toNat) hC11 (by omega)
   have hy11 : y161.length = (t160 : Int).toNat := (by rw [Ny161.out, List.length_take]; omega)
   rw [← Ny161.out] at hr11
   rw [← hy11] at hcut11
   have HR164 := Aside0.mk hr11
   have HC164 := Aside0.mk (show y161.length ≤ y161.length from by omega)
   clear hr11 hC11 hroom11 hi011 hsz11
   have KY11 := Aside0.mk hy11
   clear hy11
   replace q11 := eq_true q11
   have q12 : (t160 : Int) ≤ ((l0.length : Int) : Int) := of_decide_eq_true (by first | (with_reducible assumption) | assumption)
   obtain ⟨i012, hi012, _, hsz12, _⟩ := info_parts info38
   have hroom12 : l0.length ≤ c0 := HC0.out
   have hC12 : Kd.C k38 _ A0 l0.length l0 := HR0.out
   have q012 : (0 : Int) ≤ (t160 : Int) := of_decide_eq_true (by first | (with_reducible assumption) | assumption)
   have hcut12 := cut_from (P := Try.prog) 22 38 .i64 Try.underlying22 hi012 14 hsz12 A0 l0.length c0 t160 q012 q12
   have hr12 := Kd.C_drop (m := (t160 : Int).toNat) (c := c0) hC12 (by omega) hroom12
   obtain ⟨A12, hA12⟩ : ∃ A1, A1 = (if c0 = (t160 : Int).toNat then A0 else (A0 : Option Addr).map (·.add ((t160 : Int).toNat * 14))) := ⟨_, rfl⟩
   obtain ⟨c12, hc12⟩ : ∃ c1, c1 = c0 - (t160 : Int).toNat := ⟨_, rfl⟩
   have hy12 : y168.length = l0.length - (t160 : Int).toNat := (by rw [Ny168.out, List.length_drop] <;> omega)
   rw [show (l0).drop (t160 : Int).toNat = y168 from Ny168.out.symm] at hr12
   replace hr12 : Kd.C k38 _ A12 y168.length y168 := (by rw [hA12]; exact hr12)
   rw [← hy12, ← hA12, ← hc12] at hcut12
   have HR171 := Aside0.mk hr12
   have HC171 := Aside0.mk (show y168.length ≤ c12 from by rw [hy12, hc12]; exact Nat.sub_le_sub_right hroom12 _)
   clear hr12 hC12 hroom12 hi012 hsz12 hc12
   have KY12 := Aside0.mk hy12
   have KA12 := Aside0.mk hA12
   clear hy12 hA12
   replace q12 := eq_true q12
   refine start_ (n := 11) (S := fun w' => True) (ds := []) #[false, false, false, false, false, false, false, false, false, false, false] (by kernel_rfl) rfl rfl trivial (fun hHeld => ?_); refine with_tabW batch_Cut.tab2 batch_Cut.bits2 (fun HT_ HW_ => ?_)
   generalize w.drew = w10 at HB HR164 HR171 hHeld ⊢
   refine pure_ (i := 0) (N := some 10) (v := ?_) (a' := ?_) #[true, false, false, false, false, false, false, false, false, false, false] rfl rfl (any_of HT_.out (by kernel_rfl)) (fun _ _ _ h => h) (Or.inl ⟨by rfl, ?_⟩) ?_ ?_
   rotate_left
   · intro w'; go_simp; with_reducible rfl
   rotate_left
   · simp only [Act.put, List.setIfInBounds_toArray, List.set_cons_zero, List.set_cons_succ, i64_w, i32_w]; rfl
   refine pure_ (i := 1) (N := some 11) (v := ?_) (a' := ?_) #[true, true, false, false, false, false, false, false, false, false, false] rfl rfl (any_of HT_.out (by kernel_rfl)) (fun _ _ _ h => h) (Or.inl ⟨by rfl, ?_⟩) ?_ ?_
   rotate_left
   · intro w'; go_simp; with_reducible rfl
   rotate_left
   · simp only [Act.put, List.setIfInBounds_toArray, List.set_cons_zero, List.set_cons_succ, i64_w, i32_w]; rfl
   refine pure_ (i := 2) (N := some 12) (v := ?_) (a' := ?_) #[true, true, true, false, false, false, false, false, false, false, false] rfl rfl (any_of HT_.out (by kernel_rfl)) (fun _ _ _ h => h) (Or.inl ⟨by rfl, ?_⟩) ?_ ?_
   rotate_left
   · intro w'; go_simp; with_reducible rfl
   rotate_left
   · simp only [Act.put, List.setIfInBounds_toArray, List.set_cons_zero, List.set_cons_succ, i64_w, i32_w]; rfl
   refine pure_ (i := 3) (N := some 13) (v := ?_) (a' := ?_) #[true, true, true, true, false, false, false, false, false, false, false] rfl rfl (any_of HT_.out (by kernel_rfl)) (fun _ _ _ h => h) (Or.inl ⟨by rfl, ?_⟩) ?_ ?_
   rotate_left
   · intro w'; go_simp; with_reducible rfl
   rotate_left
   · simp only [Act.put, List.setIfInBounds_toArray, List.set_cons_zero, List.set_cons_succ, i64_w, i32_w]; rfl
   refine pure_ (i := 5) (N := some 15) (v := ?_) (a' := ?_) #[true, true, true, true, false, true, false, false, false, false, false] rfl rfl (any_of HT_.out (by kernel_rfl)) (fun _ _ _ h => h) (Or.inl ⟨by rfl, ?_⟩) ?_ ?_
   rotate_left
   · intro w'; go_simp; with_reducible rfl
   rotate_left
   · simp only [Act.put, List.setIfInBounds_toArray, List.set_cons_zero, List.set_cons_succ, i64_w, i32_w]; rfl
   refine pure_ (i := 6) (N := some 16) (v := ?_) (a' := ?_) #[true, true, true, true, false, true, true, false, false, false, false] rfl rfl (any_of HT_.out (by kernel_rfl)) (fun _ _ _ h => h) (Or.inl ⟨by rfl, ?_⟩) ?_ ?_
   rotate_left
   · intro w'; go_simp; with_reducible rfl
   rotate_left
   · simp only [Act.put, List.setIfInBounds_toArray, List.set_cons_zero, List.set_cons_succ, i64_w, i32_w]; rfl
   refine pure_ (i := 7) (N := some 17) (v := ?_) (a' := ?_) #[true, true, true, true, false, true, true, true, false, false, false] rfl rfl (any_of HT_.out (by kernel_rfl)) (fun _ _ _ h => h) (Or.inl ⟨by rfl, ?_⟩) ?_ ?_
   rotate_left
   · intro w'; go_simp; with_reducible rfl
   rotate_left
   · simp only [Act.put, List.setIfInBounds_toArray, List.set_cons_zero, List.set_cons_succ, i64_w, i32_w]; rfl
   refine one_ (i := 4) (N := some 14) #[true, true, true, true, true, true, true, true, false, false, false] rfl rfl (one_of HT_.out (by kernel_rfl)) (by decide) (fun K hK => ?_)
   refine goes_ Try.func30 (by kernel_rfl) rfl #[.slice A0 y161.length y161.length] (by rfl) rfl rfl (by (try simp only [List.map_toArray, List.map_cons, List.map_nil]); first | done | rfl | (simp only [List.length_drop, List.length_take]; rfl)) ?_
   with_reducible refine (batch_twins.calls k _ _ y161 t165 _ ?side1 ?side2 A6.out).mono ?_
   (case side1 => repeat (first | exact (Kd.C_below HR164.out HB.out) | exact HR164.out | (with_reducible refine Kd.C_alloc ?_ _) | (with_reducible refine Kd.C_drewN ?_ _) | (with_reducible refine Kd.C_drew ?_)))
   (case side2 => exact HC164.out)
   rintro e w13 ⟨v166, rfl, ho0, hb⟩
   refine ⟨_, rfl, ?_⟩
   have n0_ := Aside0.mk (Kd.S_lower ho0 (below_size (by repeat (first | (with_reducible first | exact HB.out | apply below_alloc | apply pw_below_drewN | apply below_drew1) | exact HB.out | exact Below.refl _ _))))
   have n1_ := Aside0.mk (below_step (by repeat (first | (with_reducible first | exact HB.out | apply below_alloc | apply pw_below_drewN | apply below_drew1) | exact HB.out | exact Below.refl _ _)) hb)
   clear HB
   have HO167 := n0_
   have HB := n1_
   clear n0_ n1_
   (try clear hb)
   (try clear hb2)
   (try clear hk)
   (try clear hi)
   (try clear ho0)
   refine hK.out _ _ trivial (fun hHeld => ?_)
   clear hK K
   refine norm_ (a' := ?_) ?_ ?_
   rotate_left
   · show Act.put _ (some 14) _ = _; simp only [Act.put, List.setIfInBounds_toArray, List.set_cons_zero, List.set_cons_succ, i64_w, i32_w]; rfl
   refine one_ (i := 8) (N := some 18) #[true, true, true, true, true, true, true, true, true, false, false] rfl rfl (one_of HT_.out (by kernel_rfl)) (by decide) (fun K hK => ?_)
   refine goes_ Try.func30 (by kernel_rfl) rfl #[.slice A12 y168.length c12] (by rfl) rfl rfl (by (try simp only [List.map_toArray, List.map_cons, List.map_nil]); first | done | rfl | (simp only [List.length_drop, List.length_take]; rfl)) ?_
   with_reducible refine (batch_twins.calls k _ _ y168 t172 _ ?side1 ?side2 A9.out).mono ?_
   (case side1 => repeat (first | exact (Kd.C_below HR171.out HB.out) | exact HR171.out | (with_reducible refine Kd.C_alloc ?_ _) | (with_reducible refine Kd.C_drewN ?_ _) | (with_reducible refine Kd.C_drew ?_)))
   (case side2 => exact HC171.out)
   rintro e w14 ⟨v173, rfl, ho0, hb⟩
   refine ⟨_, rfl, ?_⟩
   have n0_ := Aside0.mk (Kd.S_elder' (by (with_reducible repeat (first | apply Kd.S_alloc | apply Kd.S_drewN | apply Kd.S_drew)); exact HO167.out) (Kd.S_base ho0) hb)
   have n1_ := Aside0.mk (Kd.S_lower (Kd.S_new' ho0 (Kd.S_lt (by (with_reducible repeat (first | apply Kd.S_alloc | apply Kd.S_drewN | apply Kd.S_drew)); exact HO167.out))) (below_size (by repeat (first | (with_reducible first | exact HB.out | apply below_alloc | apply pw_below_drewN | apply below_drew1) | exact HB.out | exact Below.refl _ _))))
   have n2_ := Aside0.mk (below_step (by repeat (first | (with_reducible first | exact HB.out | apply below_alloc | apply pw_below_drewN | apply below_drew1) | exact HB.out | exact Below.refl _ _)) hb)
   clear HO167
   clear HB
   have HO167 := n0_
   have HO174 := n1_
   have HB := n2_
   clear n0_ n1_ n2_
   (try clear hb)
   (try clear hb2)
   (try clear hk)
   (try clear hi)
   (try clear ho0)
   refine hK.out _ _ trivial (fun hHeld => ?_)
   clear hK K
   refine norm_ (a' := ?_) ?_ ?_
   rotate_left
   · show Act.put _ (some 18) _ = _; simp only [Act.put, List.setIfInBounds_toArray, List.set_cons_zero, List.set_cons_succ, i64_w, i32_w]; rfl
   refine pure_ (i := 9) (N := some 4) (v := ?_) (a' := ?_) #[true, true, true, true, true, true, true, true, true, true, false] rfl rfl (any_of HT_.out (by kernel_rfl)) (fun _ _ _ h => h) (Or.inl ⟨by rfl, ?_⟩) ?_ ?_
   rotate_left
   · intro w'; go_simp; with_reducible rfl
   rotate_left
   · simp only [Act.put, List.setIfInBounds_toArray, List.set_cons_zero, List.set_cons_succ, i64_w, i32_w]; rfl
   refine pure_ (i := 10) (N := some 5) (v := ?_) (a' := ?_) #[true, true, true, true, true, true, true, true, true, true, true] rfl rfl (any_of HT_.out (by kernel_rfl)) (fun _ _ _ h => h) (Or.inl ⟨by rfl, ?_⟩) ?_ ?_
   rotate_left
   · intro w'; go_simp; with_reducible rfl
   rotate_left
   · simp only [Act.put, List.setIfInBounds_toArray, List.set_cons_zero, List.set_cons_succ, i64_w, i32_w]; rfl
   refine done_ (done_of HT_.out (by kernel_rfl)) ?_
   try go_wp2
   go_ret2
   exact ⟨_, _, by first | rfl | (simp [errW_none, errW_some] <;> rfl) | (simp [*, errW_none, errW_some] <;> rfl), by (with_reducible repeat (first | apply Kd.S_alloc | apply Kd.S_drewN | apply Kd.S_drew)); exact Kd.S_mono HO167.out (fun _ hk => hk.2), by (with_reducible repeat (first | apply Kd.S_alloc | apply Kd.S_drewN | apply Kd.S_drew)); exact Kd.S_mono HO174.out (fun _ hk => hk.2), by repeat (first | (with_reducible first | exact HB.out | apply below_alloc | apply pw_below_drewN | apply below_drew1) | exact HB.out | exact Below.refl _ _)⟩
  · rw [if_neg c5] at H; exact absurd H (by simp)
 · rw [if_neg c4] at H; exact absurd H (by simp)

end Go.Proofs.Ytdakdlgkhnjhoaa.PA
