-- Written by wip/printx.py, a program of this work over the kit's print, for this claim.
import Derived.Test.YtandeendeoempaaPCx0
namespace Go.Proofs.Ytandeendeoempaa.PC
open Go.RowKit Go.Proofs.YtandeendeoempaaW.PrintWords Go.Proofs.YtandeendeoempaaW.PrintLast Go.Proofs.YtandeendeoempaaW.PrintMore
attribute [local go_sem] max2_int min2_int max_two min_two max_three min_three max_four min_four   -- for this text's walks alone
attribute [local go_sem] Ext.pick_u8 Ext.pick_u32 Ext.pick_u64
set_option linter.unusedVariables false
set_option linter.unusedSimpArgs false



/-! ### page_Used: function 18 -/
mutual
def page_Used.l0 : Nat → Int → List (S44) → Int → Int → Int → Int → Int → List (S44) → List (S60) → List Int → List Int → Option (Int)
 | 0, _, _, _, _, _, _, _, _, _, _, _ => none
 | k + 1, x3, x17, x18, x19, x102000, x102001, x102002, x102003, x102004, x102005, x102006 => if x19 < x18 then (if 0 ≤ x19 then (if x19 < (x17.length : Int) then (if ((rd_T44 x17 x19).f2) > 64 then (page_Used.l0 k (wrap64 ((wrap64 (x3 + (wrap64 (3 + (((rd_T44 x17 x19).f0).length : Int))))) + 4)) x17 x18 (wrap64 (x19 + 1)) x102000 x102001 x102002 x102003 x102004 x102005 x102006) else (page_Used.l0 k (wrap64 ((wrap64 (x3 + (wrap64 (3 + (((rd_T44 x17 x19).f0).length : Int))))) + (((rd_T44 x17 x19).f1).length : Int))) x17 x18 (wrap64 (x19 + 1)) x102000 x102001 x102002 x102003 x102004 x102005 x102006)) else (none)) else (none)) else (page_Used.l1 k x3 x102004 (x102004.length : Int) 0)
def page_Used.l1 : Nat → Int → List (S60) → Int → Int → Option (Int)
 | 0, _, _, _, _ => none
 | k + 1, x3, x41, x42, x43 => if x43 < x42 then (if 0 ≤ x43 then (if x43 < (x41.length : Int) then (page_Used.l1 k (wrap64 (x3 + (wrap64 (5 + (((rd_T60 x41 x43).f0).length : Int))))) x41 x42 (wrap64 (x43 + 1))) else (none)) else (none)) else (some x3)
end
def page_Used.f (k : Nat) (a0_0 : Int) (a0_1 : Int) (a0_2 : Int) (l0_3 : List (S44)) (l0_4 : List (S60)) (l0_5 : List Int) (l0_6 : List Int) : Option (Int) := page_Used.l0 k (wrap64 ((l0_5.length : Int) + (wrap64 (4 * (l0_6.length : Int))))) l0_3 (l0_3.length : Int) 0 a0_0 a0_1 a0_2 l0_3 l0_4 l0_5 l0_6
theorem page_Used.mono_l : ∀ k, (∀ y0 y1 y2 y3 y4 y5 y6 y7 y8 y9 y10, LeO (page_Used.l0 k y0 y1 y2 y3 y4 y5 y6 y7 y8 y9 y10) (page_Used.l0 (k + 1) y0 y1 y2 y3 y4 y5 y6 y7 y8 y9 y10)) ∧ (∀ y0 y1 y2 y3, LeO (page_Used.l1 k y0 y1 y2 y3) (page_Used.l1 (k + 1) y0 y1 y2 y3))
 | 0 => ⟨fun _ _ _ _ _ _ _ _ _ _ _ r h => by simp [page_Used.l0] at h, fun _ _ _ _ r h => by simp [page_Used.l1] at h⟩
 | k + 1 => by
  obtain ⟨ih0, ih1⟩ := page_Used.mono_l k; refine ⟨?_, ?_⟩
  ·
   intro y0 y1 y2 y3 y4 y5 y6 y7 y8 y9 y10
   unfold page_Used.l0
   repeat' first
   | (with_reducible exact ih0 _ _ _ _ _ _ _ _ _ _ _)
   | (with_reducible exact ih1 _ _ _ _)
   | (with_reducible exact LeO.refl _)
   | (with_reducible exact LeO.none _)
   | (with_reducible refine LeO.ite ?_ ?_)
   | (with_reducible refine LeO.bind ?_ (fun _ => ?_))
   | exact ih0 _ _ _ _ _ _ _ _ _ _ _
   | exact ih1 _ _ _ _
   | exact LeO.none _
   | refine LeO.ite ?_ ?_
   | refine LeO.bind ?_ (fun _ => ?_)
  ·
   intro y0 y1 y2 y3
   unfold page_Used.l1
   repeat' first
   | (with_reducible exact ih0 _ _ _ _ _ _ _ _ _ _ _)
   | (with_reducible exact ih1 _ _ _ _)
   | (with_reducible exact LeO.refl _)
   | (with_reducible exact LeO.none _)
   | (with_reducible refine LeO.ite ?_ ?_)
   | (with_reducible refine LeO.bind ?_ (fun _ => ?_))
   | exact ih0 _ _ _ _ _ _ _ _ _ _ _
   | exact ih1 _ _ _ _
   | exact LeO.none _
   | refine LeO.ite ?_ ?_
   | refine LeO.bind ?_ (fun _ => ?_)
theorem page_Used.mono : ∀ a0 a1 a2 a3 a4 a5 a6 k, LeO (page_Used.f k a0 a1 a2 a3 a4 a5 a6) (page_Used.f (k + 1) a0 a1 a2 a3 a4 a5 a6) := by
 intro a0 a1 a2 a3 a4 a5 a6 k
 obtain ⟨ih0, ih1⟩ := page_Used.mono_l k; unfold page_Used.f
 repeat' first
   | (with_reducible exact ih0 _ _ _ _ _ _ _ _ _ _ _)
   | (with_reducible exact ih1 _ _ _ _)
   | (with_reducible exact LeO.refl _)
   | (with_reducible exact LeO.none _)
   | (with_reducible refine LeO.ite ?_ ?_)
   | (with_reducible refine LeO.bind ?_ (fun _ => ?_))
   | exact ih0 _ _ _ _ _ _ _ _ _ _ _
   | exact ih1 _ _ _ _
   | exact LeO.none _
   | refine LeO.ite ?_ ?_
   | refine LeO.bind ?_ (fun _ => ?_)
set_option maxHeartbeats 8000000 in
set_option maxRecDepth 100000 in
theorem page_Used.calls (k : Nat) (a0_0 : Int) (a0_1 : Int) (a0_2 : Int) (A0_3 : Option Addr) (c0_3 : Nat) (l0_3 : List (S44)) (A0_4 : Option Addr) (c0_4 : Nat) (l0_4 : List (S60)) (A0_5 : Option Addr) (c0_5 : Nat) (l0_5 : List Int) (A0_6 : Option Addr) (c0_6 : Nat) (l0_6 : List Int) (r : Int) (w : World) (hr0_3 : Kd.C k44 w A0_3 l0_3.length l0_3) (hc0_3 : l0_3.length ≤ c0_3) (hr0_4 : Kd.C k60 w A0_4 l0_4.length l0_4) (hc0_4 : l0_4.length ≤ c0_4) (hr0_5 : Kd.C (Kd.int .u8) w A0_5 l0_5.length l0_5) (hc0_5 : l0_5.length ≤ c0_5) (hr0_6 : Kd.C (Kd.int .i64) w A0_6 l0_6.length l0_6) (hc0_6 : l0_6.length ≤ c0_6) (h : page_Used.f k a0_0 a0_1 a0_2 l0_3 l0_4 l0_5 l0_6 = some r) :
  Calls Try.prog 18 #[.agg #[.int .i64 a0_0, .int .u64 a0_1, .int .i64 a0_2, .slice A0_3 l0_3.length c0_3, .slice A0_4 l0_4.length c0_4, .slice A0_5 l0_5.length c0_5, .slice A0_6 l0_6.length c0_6]] w fun e w' => e = .returned (.int .i64 r) ∧ Below w.heap.size w w' := by
 have hu28 := Try.underlying28; have hu44 := Try.underlying44; have hu60 := Try.underlying60; have HR0_3 := Aside0.mk hr0_3; have HC0_3 := Aside0.mk hc0_3; clear hr0_3 hc0_3; have HR0_4 := Aside0.mk hr0_4; have HC0_4 := Aside0.mk hc0_4; clear hr0_4 hc0_4; have HR0_5 := Aside0.mk hr0_5; have HC0_5 := Aside0.mk hc0_5; clear hr0_5 hc0_5; have HR0_6 := Aside0.mk hr0_6; have HC0_6 := Aside0.mk hc0_6; clear hr0_6 hc0_6; have HB := Ext.a (Below.refl w.heap.size w); have H := h; unfold page_Used.f at H; clear h; have H' := Aside0.mk H; clear H
 go_enter Try.func18, Try.ntmps18
 go_wp2_with (first | ((with_reducible refine gate_dst (N := 1) rfl ?_); refine box_event ?hg (N := 1) ?hd (cs := #[.int .i64 a0_0, .int .u64 a0_1, .int .i64 a0_2, .slice A0_3 l0_3.length c0_3, .slice A0_4 l0_4.length c0_4, .slice A0_5 l0_5.length c0_5, .slice A0_6 l0_6.length c0_6]) (t := 28) ?hr ?_; (case hd => rfl); (case hg => rfl); (case hr => first | (go_simp; done) | (go_simp; rfl)); intro gb101 hg w2 hbox hb; have BK101 := Ext.a (hbox); have GW101 := Ext.gw hg (below_size (Ext.nB HB.out)); have GE101 := Ext.gw hg (below_size (Ext.nB HB.out)); replace HB := Ext.a (below_step (Ext.nB HB.out) hb); clear hb hbox hg; have hcz3 := Ext.cells7 BK101.out; have hfz3 := Ext.froz7 BK101.out))
 go_loopg [3, 19] k (fun kq v3 v19 w' => ∃ (x3_1 : Int) (x19_1 : Int), v3 = .int .i64 x3_1 ∧ v19 = .int .i64 x19_1 ∧ Aside0 (page_Used.l0 kq x3_1 l0_3 (l0_3.length : Int) x19_1 a0_0 a0_1 a0_2 l0_3 l0_4 l0_5 l0_6 = some r) ∧ Aside0 (kq ≤ k) ∧ Aside0 (w'.heap[gb101]? = some (.cells #[.int .i64 a0_0, .int .u64 a0_1, .int .i64 a0_2, (.slice A0_3 l0_3.length c0_3), (.slice A0_4 l0_4.length c0_4), (.slice A0_5 l0_5.length c0_5), (.slice A0_6 l0_6.length c0_6)] 28 (0, 0))) ∧ Aside0 (Below w.heap.size w w'))
 case atStart => exact ⟨(wrap64 ((l0_5.length : Int) + (wrap64 (4 * (l0_6.length : Int))))), (0), (by first | rfl | (simp; done) | (simp [*]; done)), (by first | rfl | (simp; done) | (simp [*]; done)), H', ⟨Nat.le_refl _⟩, ⟨by exact BK101.out⟩, ⟨by exact Ext.s1 GE101.out HB.out⟩⟩
 case round =>
  clear H'; (try clear c1 p2 hcz3 hfz3); obtain ⟨x3_1, x19_1, rfl, rfl, HA, HK1, BK101, HB⟩ := hrel; cases gk with
  | zero => exact absurd HA.out (by simp [page_Used.l0])
  | succ k1 =>
   have H := HA.out; clear HA; simp only [page_Used.l0] at H
   by_cases c4 : x19_1 < (l0_3.length : Int)
   ·
    rw [if_pos c4] at H; have c4b0 := decide_eq_true c4; clear c4
    by_cases c5 : 0 ≤ x19_1
    ·
     rw [if_pos c5] at H; have c5b0 := decide_eq_true c5; clear c5
     by_cases c6 : x19_1 < (l0_3.length : Int)
     ·
      rw [if_pos c6] at H; have c6b0 := decide_eq_true c6; clear c6
      by_cases c7 : ((rd_T44 l0_3 x19_1).f2) > 64
      ·
       rw [if_pos c7] at H; have c7b0 := decide_eq_true c7; clear c7; have H' := Aside0.mk H; clear H; have p102 : 0 ≤ (x19_1 : Int) := of_decide_eq_true (by first | (with_reducible assumption) | assumption); have q102 : x19_1 < (l0_3.length : Int) := of_decide_eq_true (by first | (with_reducible assumption) | assumption); obtain ⟨ad102, A102_0, c102_0, A102_1, c102_1, e102, hx102_0, hx102_1, hx102_2, hx102_3, hl102_0, hi102_0, hl102_1, hi102_1⟩ := at_T44 HR0_3.out x19_1 p102 q102; cases e102; replace hx102_0 := (HB.out.cell (World.block_lt_of_cell? w _ hx102_0)).trans hx102_0; replace hx102_1 := (HB.out.cell (World.block_lt_of_cell? w _ hx102_1)).trans hx102_1; replace hx102_2 := (HB.out.cell (World.block_lt_of_cell? w _ hx102_2)).trans hx102_2; replace hx102_3 := (HB.out.cell (World.block_lt_of_cell? w _ hx102_3)).trans hx102_3; have HR102_0 := Aside0.mk hi102_0; have HC102_0 := Aside0.mk hl102_0; clear hi102_0 hl102_0; have HR102_1 := Aside0.mk hi102_1; have HC102_1 := Aside0.mk hl102_1; clear hi102_1 hl102_1; replace p102 := eq_true p102; replace q102 := eq_true q102
       go_wp2_with (first | ((with_reducible refine gate_dst (N := 5) rfl ?_); refine box_event ?hg (N := 5) ?hd (cs := #[.slice none 0 0, .slice none 0 0, .int .i64 0, .int .i64 0]) (t := 44) ?hr ?_; (case hd => rfl); (case hg => rfl); (case hr => first | (go_simp; done) | (go_simp; rfl)); intro gb103 hg w8 hbox hb; have BK103 := Ext.a (hbox); have GW103 := Ext.gw hg (below_size (Ext.s1 GE101.out HB.out)); have GE103 := Ext.gw hg (below_size (Ext.s1 GE101.out HB.out)); replace HB := Ext.a (below_step (Ext.s1 GE101.out HB.out) hb); have NB101_103 := Ext.nt hg (blk_lt BK101.out); have NB103_101 := Ext.ng hg (blk_lt BK101.out); replace BK101 := Ext.a (blk_below BK101.out hb); clear hb hbox hg; have hnb9 := NB103_101.out; have hnc9 := NB101_103.out; obtain ⟨hcz10_0, hcz10_1, hcz10_2, hcz10_3⟩ := Ext.cells4 BK103.out; obtain ⟨hfz10_0, hfz10_1, hfz10_2, hfz10_3⟩ := Ext.froz4 BK103.out))
       go_roundg k1
       case measure => have := HK1.out; omega
       case rel => exact ⟨(wrap64 ((wrap64 (x3_1 + (wrap64 (3 + (((rd_T44 l0_3 x19_1).f0).length : Int))))) + 4)), (wrap64 (x19_1 + 1)), (by first | rfl | (simp; done) | (simp [*]; done)), (by first | rfl | (simp; done) | (simp [*]; done)), H', ⟨by have := HK1.out; omega⟩, ⟨by exact Ext.pb1 NB101_103.out BK101.out⟩, ⟨by exact Ext.s2 GE101.out GE103.out HB.out⟩⟩
      ·
       rw [if_neg c7] at H; have c7b0 := decide_eq_false c7; clear c7; have H' := Aside0.mk H; clear H; have p102 : 0 ≤ (x19_1 : Int) := of_decide_eq_true (by first | (with_reducible assumption) | assumption); have q102 : x19_1 < (l0_3.length : Int) := of_decide_eq_true (by first | (with_reducible assumption) | assumption); obtain ⟨ad102, A102_0, c102_0, A102_1, c102_1, e102, hx102_0, hx102_1, hx102_2, hx102_3, hl102_0, hi102_0, hl102_1, hi102_1⟩ := at_T44 HR0_3.out x19_1 p102 q102; cases e102; replace hx102_0 := (HB.out.cell (World.block_lt_of_cell? w _ hx102_0)).trans hx102_0; replace hx102_1 := (HB.out.cell (World.block_lt_of_cell? w _ hx102_1)).trans hx102_1; replace hx102_2 := (HB.out.cell (World.block_lt_of_cell? w _ hx102_2)).trans hx102_2; replace hx102_3 := (HB.out.cell (World.block_lt_of_cell? w _ hx102_3)).trans hx102_3; have HR102_0 := Aside0.mk hi102_0; have HC102_0 := Aside0.mk hl102_0; clear hi102_0 hl102_0; have HR102_1 := Aside0.mk hi102_1; have HC102_1 := Aside0.mk hl102_1; clear hi102_1 hl102_1; replace p102 := eq_true p102; replace q102 := eq_true q102
       go_wp2_with (first | ((with_reducible refine gate_dst (N := 5) rfl ?_); refine box_event ?hg (N := 5) ?hd (cs := #[.slice none 0 0, .slice none 0 0, .int .i64 0, .int .i64 0]) (t := 44) ?hr ?_; (case hd => rfl); (case hg => rfl); (case hr => first | (go_simp; done) | (go_simp; rfl)); intro gb103 hg w11 hbox hb; have BK103 := Ext.a (hbox); have GW103 := Ext.gw hg (below_size (Ext.s1 GE101.out HB.out)); have GE103 := Ext.gw hg (below_size (Ext.s1 GE101.out HB.out)); replace HB := Ext.a (below_step (Ext.s1 GE101.out HB.out) hb); have NB101_103 := Ext.nt hg (blk_lt BK101.out); have NB103_101 := Ext.ng hg (blk_lt BK101.out); replace BK101 := Ext.a (blk_below BK101.out hb); clear hb hbox hg; have hnb12 := NB103_101.out; have hnc12 := NB101_103.out; obtain ⟨hcz13_0, hcz13_1, hcz13_2, hcz13_3⟩ := Ext.cells4 BK103.out; obtain ⟨hfz13_0, hfz13_1, hfz13_2, hfz13_3⟩ := Ext.froz4 BK103.out))
       go_roundg k1
       case measure => have := HK1.out; omega
       case rel => exact ⟨(wrap64 ((wrap64 (x3_1 + (wrap64 (3 + (((rd_T44 l0_3 x19_1).f0).length : Int))))) + (((rd_T44 l0_3 x19_1).f1).length : Int))), (wrap64 (x19_1 + 1)), (by first | rfl | (simp; done) | (simp [*]; done)), (by first | rfl | (simp; done) | (simp [*]; done)), H', ⟨by have := HK1.out; omega⟩, ⟨by exact Ext.pb1 NB101_103.out BK101.out⟩, ⟨by exact Ext.s2 GE101.out GE103.out HB.out⟩⟩
     · rw [if_neg c6] at H; exact absurd H (by simp)
    · rw [if_neg c5] at H; exact absurd H (by simp)
   ·
    rw [if_neg c4] at H; have c4b0 := decide_eq_false c4; clear c4; have H' := Aside0.mk H; clear H; have hcz14 := Ext.cells7 BK101.out; have hfz14 := Ext.froz7 BK101.out
    go_wp2
    go_loopg [3, 43] k1 (fun kq v3 v43 w' => ∃ (x3_2 : Int) (x43_2 : Int), v3 = .int .i64 x3_2 ∧ v43 = .int .i64 x43_2 ∧ Aside0 (page_Used.l1 kq x3_2 l0_4 (l0_4.length : Int) x43_2 = some r) ∧ Aside0 (kq ≤ k1) ∧ Aside0 (w'.heap[gb101]? = some (.cells #[.int .i64 a0_0, .int .u64 a0_1, .int .i64 a0_2, (.slice A0_3 l0_3.length c0_3), (.slice A0_4 l0_4.length c0_4), (.slice A0_5 l0_5.length c0_5), (.slice A0_6 l0_6.length c0_6)] 28 (0, 0))) ∧ Aside0 (Below w.heap.size w w'))
    case atStart => exact ⟨(x3_1), (0), (by first | rfl | (simp; done) | (simp [*]; done)), (by first | rfl | (simp; done) | (simp [*]; done)), H', ⟨Nat.le_refl _⟩, ⟨by exact BK101.out⟩, ⟨by exact Ext.s1 GE101.out HB.out⟩⟩
    case round =>
     clear H'; (try clear p1 q1 hx1 c4b0 c5b0 c6b0 p6 c7b0 c9 c10 p10 q10 hx10 c12 hcz10_0 hcz10_1 hcz10_2 hcz10_3 hcz13_0 hcz13_1 hcz13_2 hcz13_3 hcz14 hfz10_0 hfz10_1 hfz10_2 hfz10_3 hfz13_0 hfz13_1 hfz13_2 hfz13_3 hfz14 hx102_0 hx102_1 hx102_2 hx102_3 p102 q102); obtain ⟨x3_2, x43_2, rfl, rfl, HA, HK2, BK101, HB⟩ := hrel; cases gk with
     | zero => exact absurd HA.out (by simp [page_Used.l1])
     | succ k2 =>
      have H := HA.out; clear HA; simp only [page_Used.l1] at H
      by_cases c15 : x43_2 < (l0_4.length : Int)
      ·
       rw [if_pos c15] at H; have c15b0 := decide_eq_true c15; clear c15
       by_cases c16 : 0 ≤ x43_2
       ·
        rw [if_pos c16] at H; have c16b0 := decide_eq_true c16; clear c16
        by_cases c17 : x43_2 < (l0_4.length : Int)
        ·
         rw [if_pos c17] at H; have c17b0 := decide_eq_true c17; clear c17; have H' := Aside0.mk H; clear H; have p104 : 0 ≤ (x43_2 : Int) := of_decide_eq_true (by first | (with_reducible assumption) | assumption); have q104 : x43_2 < (l0_4.length : Int) := of_decide_eq_true (by first | (with_reducible assumption) | assumption); obtain ⟨ad104, A104_0, c104_0, e104, hx104_0, hx104_1, hl104_0, hi104_0⟩ := at_T60 HR0_4.out x43_2 p104 q104; cases e104; replace hx104_0 := (HB.out.cell (World.block_lt_of_cell? w _ hx104_0)).trans hx104_0; replace hx104_1 := (HB.out.cell (World.block_lt_of_cell? w _ hx104_1)).trans hx104_1; have HR104_0 := Aside0.mk hi104_0; have HC104_0 := Aside0.mk hl104_0; clear hi104_0 hl104_0; replace p104 := eq_true p104; replace q104 := eq_true q104
         go_wp2_with (first | ((with_reducible refine gate_dst (N := 7) rfl ?_); refine box_event ?hg (N := 7) ?hd (cs := #[.slice none 0 0, .int .i64 0]) (t := 60) ?hr ?_; (case hd => rfl); (case hg => rfl); (case hr => first | (go_simp; done) | (go_simp; rfl)); intro gb105 hg w18 hbox hb; have BK105 := Ext.a (hbox); have GW105 := Ext.gw hg (below_size (Ext.s1 GE101.out HB.out)); have GE105 := Ext.gw hg (below_size (Ext.s1 GE101.out HB.out)); replace HB := Ext.a (below_step (Ext.s1 GE101.out HB.out) hb); have NB101_105 := Ext.nt hg (blk_lt BK101.out); have NB105_101 := Ext.ng hg (blk_lt BK101.out); replace BK101 := Ext.a (blk_below BK101.out hb); clear hb hbox hg; have hnb19 := NB105_101.out; have hnc19 := NB101_105.out; have hcz20_0 : w18.cell? ⟨gb105, 0, none⟩ = some (.slice none 0 0) := (blk_cell BK105.out 0).trans rfl; have hcz20_1 : w18.cell? ⟨gb105, 1, none⟩ = some (.int .i64 0) := (blk_cell BK105.out 1).trans rfl; have hfz20_0 := blk_frozen BK105.out 0; have hfz20_1 := blk_frozen BK105.out 1))
         go_roundg k2
         case measure => have := HK1.out; have := HK2.out; omega
         case rel => exact ⟨(wrap64 (x3_2 + (wrap64 (5 + (((rd_T60 l0_4 x43_2).f0).length : Int))))), (wrap64 (x43_2 + 1)), (by first | rfl | (simp; done) | (simp [*]; done)), (by first | rfl | (simp; done) | (simp [*]; done)), H', ⟨by have := HK1.out; have := HK2.out; omega⟩, ⟨by exact Ext.pb1 NB101_105.out BK101.out⟩, ⟨by exact Ext.s2 GE101.out GE105.out HB.out⟩⟩
        · rw [if_neg c17] at H; exact absurd H (by simp)
       · rw [if_neg c16] at H; exact absurd H (by simp)
      ·
       rw [if_neg c15] at H; have c15b0 := decide_eq_false c15; clear c15; obtain rfl := Option.some.inj H
       go_wp2
       go_ret
       exact ⟨by first | rfl | (simp [errW_none, errW_some] <;> rfl) | (simp [*, errW_none, errW_some] <;> rfl), by exact Ext.s1 GE101.out HB.out⟩

end Go.Proofs.Ytandeendeoempaa.PC
