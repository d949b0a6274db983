-- Written by wip/printx.py, a program of this work over the kit's print, for this claim.
import Derived.Test.YtandeendeoempaaPCx0
namespace Go.Proofs.Ytandeendeoempaa.PC
open Go.RowKit Go.Proofs.YtandeendeoempaaW.PrintWords Go.Proofs.YtandeendeoempaaW.PrintLast Go.Proofs.YtandeendeoempaaW.PrintMore
attribute [local go_sem] max2_int min2_int max_two min_two max_three min_three max_four min_four   -- for this text's walks alone
attribute [local go_sem] Ext.pick_u8 Ext.pick_u32 Ext.pick_u64
set_option linter.unusedVariables false
set_option linter.unusedSimpArgs false



/-! ### terrierlaw04_few: function 10 -/
mutual
def terrierlaw04_few.j0 : Nat → Bool → Int → Int → Int → List (S44) → List (S60) → List Int → List Int → Option (Bool)
 | 0, _, _, _, _, _, _, _, _ => none
 | k + 1, x28, x232000, x232001, x232002, x232003, x232004, x232005, x232006 => if x28 = true then (some false) else (terrierlaw04_few.l0 k x232003 (x232003.length : Int) 0 x232000 x232001 x232002 x232003 x232004 x232005 x232006)
def terrierlaw04_few.l0 : Nat → List (S44) → Int → Int → Int → Int → Int → List (S44) → List (S60) → List Int → List Int → Option (Bool)
 | 0, _, _, _, _, _, _, _, _, _, _ => none
 | k + 1, x30, x31, x32, x232000, x232001, x232002, x232003, x232004, x232005, x232006 => if x32 < x31 then (if 0 ≤ x32 then (if x32 < (x30.length : Int) then (if (((rd_T44 x30 x32).f0).length : Int) > 1000 then (some false) else (if (((rd_T44 x30 x32).f1).length : Int) > 1000 then (some false) else (terrierlaw04_few.l0 k x30 x31 (wrap64 (x32 + 1)) x232000 x232001 x232002 x232003 x232004 x232005 x232006))) else (none)) else (none)) else (terrierlaw04_few.l1 k x232004 (x232004.length : Int) 0)
def terrierlaw04_few.l1 : Nat → List (S60) → Int → Int → Option (Bool)
 | 0, _, _, _ => none
 | k + 1, x48, x49, x50 => if x50 < x49 then (if 0 ≤ x50 then (if x50 < (x48.length : Int) then (if (((rd_T60 x48 x50).f0).length : Int) > 1000 then (some false) else (terrierlaw04_few.l1 k x48 x49 (wrap64 (x50 + 1)))) else (none)) else (none)) else (some true)
end
def terrierlaw04_few.f (k : Nat) (a0_0 : Int) (a0_1 : Int) (a0_2 : Int) (l0_3 : List (S44)) (l0_4 : List (S60)) (l0_5 : List Int) (l0_6 : List Int) : Option (Bool) := if (l0_3.length : Int) > 300 then (terrierlaw04_few.j0 k true a0_0 a0_1 a0_2 l0_3 l0_4 l0_5 l0_6) else (if (l0_4.length : Int) > 300 then (terrierlaw04_few.j0 k true a0_0 a0_1 a0_2 l0_3 l0_4 l0_5 l0_6) else (if (l0_5.length : Int) > 1000 then (terrierlaw04_few.j0 k true a0_0 a0_1 a0_2 l0_3 l0_4 l0_5 l0_6) else (terrierlaw04_few.j0 k (decide ((l0_6.length : Int) > 300)) a0_0 a0_1 a0_2 l0_3 l0_4 l0_5 l0_6)))
theorem terrierlaw04_few.mono_l : ∀ k, (∀ y0 y1 y2 y3 y4 y5 y6 y7, LeO (terrierlaw04_few.j0 k y0 y1 y2 y3 y4 y5 y6 y7) (terrierlaw04_few.j0 (k + 1) y0 y1 y2 y3 y4 y5 y6 y7)) ∧ (∀ y0 y1 y2 y3 y4 y5 y6 y7 y8 y9, LeO (terrierlaw04_few.l0 k y0 y1 y2 y3 y4 y5 y6 y7 y8 y9) (terrierlaw04_few.l0 (k + 1) y0 y1 y2 y3 y4 y5 y6 y7 y8 y9)) ∧ (∀ y0 y1 y2, LeO (terrierlaw04_few.l1 k y0 y1 y2) (terrierlaw04_few.l1 (k + 1) y0 y1 y2))
 | 0 => ⟨fun _ _ _ _ _ _ _ _ r h => by simp [terrierlaw04_few.j0] at h, fun _ _ _ _ _ _ _ _ _ _ r h => by simp [terrierlaw04_few.l0] at h, fun _ _ _ r h => by simp [terrierlaw04_few.l1] at h⟩
 | k + 1 => by
  obtain ⟨ih0, ih1, ih2⟩ := terrierlaw04_few.mono_l k; refine ⟨?_, ?_, ?_⟩
  ·
   intro y0 y1 y2 y3 y4 y5 y6 y7
   unfold terrierlaw04_few.j0
   repeat' first
   | (with_reducible exact ih0 _ _ _ _ _ _ _ _)
   | (with_reducible exact ih1 _ _ _ _ _ _ _ _ _ _)
   | (with_reducible exact ih2 _ _ _)
   | (with_reducible exact LeO.refl _)
   | (with_reducible exact LeO.none _)
   | (with_reducible refine LeO.ite ?_ ?_)
   | (with_reducible refine LeO.bind ?_ (fun _ => ?_))
   | exact ih0 _ _ _ _ _ _ _ _
   | exact ih1 _ _ _ _ _ _ _ _ _ _
   | exact ih2 _ _ _
   | exact LeO.none _
   | refine LeO.ite ?_ ?_
   | refine LeO.bind ?_ (fun _ => ?_)
  ·
   intro y0 y1 y2 y3 y4 y5 y6 y7 y8 y9
   unfold terrierlaw04_few.l0
   repeat' first
   | (with_reducible exact ih0 _ _ _ _ _ _ _ _)
   | (with_reducible exact ih1 _ _ _ _ _ _ _ _ _ _)
   | (with_reducible exact ih2 _ _ _)
   | (with_reducible exact LeO.refl _)
   | (with_reducible exact LeO.none _)
   | (with_reducible refine LeO.ite ?_ ?_)
   | (with_reducible refine LeO.bind ?_ (fun _ => ?_))
   | exact ih0 _ _ _ _ _ _ _ _
   | exact ih1 _ _ _ _ _ _ _ _ _ _
   | exact ih2 _ _ _
   | exact LeO.none _
   | refine LeO.ite ?_ ?_
   | refine LeO.bind ?_ (fun _ => ?_)
  ·
   intro y0 y1 y2
   unfold terrierlaw04_few.l1
   repeat' first
   | (with_reducible exact ih0 _ _ _ _ _ _ _ _)
   | (with_reducible exact ih1 _ _ _ _ _ _ _ _ _ _)
   | (with_reducible exact ih2 _ _ _)
   | (with_reducible exact LeO.refl _)
   | (with_reducible exact LeO.none _)
   | (with_reducible refine LeO.ite ?_ ?_)
   | (with_reducible refine LeO.bind ?_ (fun _ => ?_))
   | exact ih0 _ _ _ _ _ _ _ _
   | exact ih1 _ _ _ _ _ _ _ _ _ _
   | exact ih2 _ _ _
   | exact LeO.none _
   | refine LeO.ite ?_ ?_
   | refine LeO.bind ?_ (fun _ => ?_)
theorem terrierlaw04_few.mono : ∀ a0 a1 a2 a3 a4 a5 a6 k, LeO (terrierlaw04_few.f k a0 a1 a2 a3 a4 a5 a6) (terrierlaw04_few.f (k + 1) a0 a1 a2 a3 a4 a5 a6) := by
 intro a0 a1 a2 a3 a4 a5 a6 k
 obtain ⟨ih0, ih1, ih2⟩ := terrierlaw04_few.mono_l k; unfold terrierlaw04_few.f
 repeat' first
   | (with_reducible exact ih0 _ _ _ _ _ _ _ _)
   | (with_reducible exact ih1 _ _ _ _ _ _ _ _ _ _)
   | (with_reducible exact ih2 _ _ _)
   | (with_reducible exact LeO.refl _)
   | (with_reducible exact LeO.none _)
   | (with_reducible refine LeO.ite ?_ ?_)
   | (with_reducible refine LeO.bind ?_ (fun _ => ?_))
   | exact ih0 _ _ _ _ _ _ _ _
   | exact ih1 _ _ _ _ _ _ _ _ _ _
   | exact ih2 _ _ _
   | exact LeO.none _
   | refine LeO.ite ?_ ?_
   | refine LeO.bind ?_ (fun _ => ?_)
set_option maxHeartbeats 8000000 in
set_option maxRecDepth 100000 in
theorem terrierlaw04_few.calls (k : Nat) (a0_0 : Int) (a0_1 : Int) (a0_2 : Int) (A0_3 : Option Addr) (c0_3 : Nat) (l0_3 : List (S44)) (A0_4 : Option Addr) (c0_4 : Nat) (l0_4 : List (S60)) (A0_5 : Option Addr) (c0_5 : Nat) (l0_5 : List Int) (A0_6 : Option Addr) (c0_6 : Nat) (l0_6 : List Int) (r : Bool) (w : World) (hr0_3 : Kd.C k44 w A0_3 l0_3.length l0_3) (hc0_3 : l0_3.length ≤ c0_3) (hr0_4 : Kd.C k60 w A0_4 l0_4.length l0_4) (hc0_4 : l0_4.length ≤ c0_4) (hr0_5 : Kd.C (Kd.int .u8) w A0_5 l0_5.length l0_5) (hc0_5 : l0_5.length ≤ c0_5) (hr0_6 : Kd.C (Kd.int .i64) w A0_6 l0_6.length l0_6) (hc0_6 : l0_6.length ≤ c0_6) (h : terrierlaw04_few.f k a0_0 a0_1 a0_2 l0_3 l0_4 l0_5 l0_6 = some r) :
  Calls Try.prog 10 #[.agg #[.int .i64 a0_0, .int .u64 a0_1, .int .i64 a0_2, .slice A0_3 l0_3.length c0_3, .slice A0_4 l0_4.length c0_4, .slice A0_5 l0_5.length c0_5, .slice A0_6 l0_6.length c0_6]] w fun e w' => e = .returned (.bool r) ∧ Below w.heap.size w w' := by
 have hu28 := Try.underlying28; have hu44 := Try.underlying44; have hu60 := Try.underlying60; have HR0_3 := Aside0.mk hr0_3; have HC0_3 := Aside0.mk hc0_3; clear hr0_3 hc0_3; have HR0_4 := Aside0.mk hr0_4; have HC0_4 := Aside0.mk hc0_4; clear hr0_4 hc0_4; have HR0_5 := Aside0.mk hr0_5; have HC0_5 := Aside0.mk hc0_5; clear hr0_5 hc0_5; have HR0_6 := Aside0.mk hr0_6; have HC0_6 := Aside0.mk hc0_6; clear hr0_6 hc0_6; have HB := Ext.a (Below.refl w.heap.size w); have H := h; unfold terrierlaw04_few.f at H; clear h; have HC2 := Aside0.mk H; clear H
 go_enter Try.func10, Try.ntmps10
 go_upto_region 1 with (first | ((with_reducible refine gate_dst (N := 1) rfl ?_); (try (refine gate_guard (by rfl) ?_; dsimp only)); refine box_event ?hg (N := 1) ?hd (cs := #[.int .i64 a0_0, .int .u64 a0_1, .int .i64 a0_2, .slice A0_3 l0_3.length c0_3, .slice A0_4 l0_4.length c0_4, .slice A0_5 l0_5.length c0_5, .slice A0_6 l0_6.length c0_6]) (t := 28) ?hr ?_; (case hd => rfl); (case hg => rfl); (case hr => first | (go_simp; done) | (go_simp; rfl)); intro gb231 hg w3 hbox hb; have BK231 := Ext.a (hbox); have GW231 := Ext.gw hg (below_size (Ext.nB HB.out)); have GE231 := Ext.gw hg (below_size (Ext.nB HB.out)); replace HB := Ext.a (below_step (Ext.nB HB.out) hb); clear hb hbox hg))
 (try simp only [Act.put, Ext.sb, Ext.sz, Ext.ss])
 go_cut [28] (fun v28 wc => ∃ (kq : Nat) (x28_1 : Bool), v28 = .bool x28_1 ∧ Aside0 (terrierlaw04_few.j0 kq x28_1 a0_0 a0_1 a0_2 l0_3 l0_4 l0_5 l0_6 = some r) ∧ Aside0 (kq ≤ k) ∧ Aside0 (wc.heap[gb231]? = some (.cells #[.int .i64 a0_0, .int .u64 a0_1, .int .i64 a0_2, (.slice A0_3 l0_3.length c0_3), (.slice A0_4 l0_4.length c0_4), (.slice A0_5 l0_5.length c0_5), (.slice A0_6 l0_6.length c0_6)] 28 (0, 0))) ∧ Aside0 (Below w.heap.size w wc))
 case first =>
  have H := HC2.out; clear HC2
  by_cases c4 : (l0_3.length : Int) > 300
  ·
   rw [if_pos c4] at H; have c4b0 := decide_eq_true c4; have c4b1 : decide (300 < l0_3.length) = true := decide_eq_true (by omega); clear c4
   (first | rw [c4b0] | (simp only [i64_w, i32_w]; rw [c4b0]) | skip)
   have H' := Aside0.mk H; clear H; have hcz5 := Ext.cells7 BK231.out; have hfz5 := Ext.froz7 BK231.out
   go_wp2
   go_meet
   case rel => exact ⟨_, (true), (by first | rfl | (simp; done) | (simp [*]; done)), H', ⟨by first | omega | exact Nat.le_refl _⟩, ⟨by exact BK231.out⟩, ⟨by exact Ext.s1 GE231.out HB.out⟩⟩
  ·
   rw [if_neg c4] at H; have c4b0 := decide_eq_false c4; have c4b1 : decide (300 < l0_3.length) = false := decide_eq_false (by omega); clear c4
   (first | rw [c4b0] | (simp only [i64_w, i32_w]; rw [c4b0]) | skip)
   by_cases c6 : (l0_4.length : Int) > 300
   ·
    rw [if_pos c6] at H; have c6b0 := decide_eq_true c6; have c6b1 : decide (300 < l0_4.length) = true := decide_eq_true (by omega); clear c6; have H' := Aside0.mk H; clear H; have hcz7 := Ext.cells7 BK231.out; have hfz7 := Ext.froz7 BK231.out
    go_wp2
    go_meet
    case rel => exact ⟨_, (true), (by first | rfl | (simp; done) | (simp [*]; done)), H', ⟨by first | omega | exact Nat.le_refl _⟩, ⟨by exact BK231.out⟩, ⟨by exact Ext.s1 GE231.out HB.out⟩⟩
   ·
    rw [if_neg c6] at H; have c6b0 := decide_eq_false c6; have c6b1 : decide (300 < l0_4.length) = false := decide_eq_false (by omega); clear c6
    by_cases c8 : (l0_5.length : Int) > 1000
    ·
     rw [if_pos c8] at H; have c8b0 := decide_eq_true c8; have c8b1 : decide (1000 < l0_5.length) = true := decide_eq_true (by omega); clear c8; have H' := Aside0.mk H; clear H; have hcz9 := Ext.cells7 BK231.out; have hfz9 := Ext.froz7 BK231.out
     go_wp2
     go_meet
     case rel => exact ⟨_, (true), (by first | rfl | (simp; done) | (simp [*]; done)), H', ⟨by first | omega | exact Nat.le_refl _⟩, ⟨by exact BK231.out⟩, ⟨by exact Ext.s1 GE231.out HB.out⟩⟩
    ·
     rw [if_neg c8] at H; have c8b0 := decide_eq_false c8; have c8b1 : decide (1000 < l0_5.length) = false := decide_eq_false (by omega); clear c8; have H' := Aside0.mk H; clear H; have hcz10 := Ext.cells7 BK231.out; have hfz10 := Ext.froz7 BK231.out
     go_wp2
     go_meet
     case rel => exact ⟨_, (decide ((l0_6.length : Int) > 300)), (by first | rfl | (simp; done) | (simp [*]; done)), H', ⟨by first | omega | exact Nat.le_refl _⟩, ⟨by exact BK231.out⟩, ⟨by exact Ext.s1 GE231.out HB.out⟩⟩
 case rest =>
  clear HC2; (try clear c1 p2 c4b0 c4b1 c6b0 c6b1 c8b0 c8b1 c10 hcz10 hcz5 hcz7 hcz9 hfz10 hfz5 hfz7 hfz9); obtain ⟨kq, x28_1, rfl, HA, HJ1, BK231, HB⟩ := hcut; cases kq with
  | zero => exact absurd HA.out (by simp [terrierlaw04_few.j0])
  | succ kj1 =>
   have H := HA.out; clear HA; simp only [terrierlaw04_few.j0] at H
   by_cases c11 : x28_1 = true
   ·
    subst c11; rw [if_pos rfl] at H; obtain rfl := Option.some.inj H
    go_wp2
    go_ret
    exact ⟨by first | rfl | (simp [errW_none, errW_some] <;> rfl) | (simp [*, errW_none, errW_some] <;> rfl), by exact Ext.s1 GE231.out HB.out⟩
   ·
    replace c11 := Bool.eq_false_iff.mpr c11; subst c11; rw [if_neg Bool.false_ne_true] at H; have H' := Aside0.mk H; clear H; have hcz12 := Ext.cells7 BK231.out; have hfz12 := Ext.froz7 BK231.out
    go_wp2
    go_loopg [32] kj1 (fun kq v32 w' => ∃ (x32_2 : Int), v32 = .int .i64 x32_2 ∧ Aside0 (terrierlaw04_few.l0 kq l0_3 (l0_3.length : Int) x32_2 a0_0 a0_1 a0_2 l0_3 l0_4 l0_5 l0_6 = some r) ∧ Aside0 (kq ≤ kj1) ∧ Aside0 (w'.heap[gb231]? = some (.cells #[.int .i64 a0_0, .int .u64 a0_1, .int .i64 a0_2, (.slice A0_3 l0_3.length c0_3), (.slice A0_4 l0_4.length c0_4), (.slice A0_5 l0_5.length c0_5), (.slice A0_6 l0_6.length c0_6)] 28 (0, 0))) ∧ Aside0 (Below w.heap.size w w'))
    case atStart => exact ⟨(0), (by first | rfl | (simp; done) | (simp [*]; done)), H', ⟨Nat.le_refl _⟩, ⟨by exact BK231.out⟩, ⟨by exact Ext.s1 GE231.out HB.out⟩⟩
    case round =>
     clear H'; (try clear hcz12 hfz12); obtain ⟨x32_2, rfl, HA, HK2, BK231, HB⟩ := hrel; cases gk with
     | zero => exact absurd HA.out (by simp [terrierlaw04_few.l0])
     | succ k2 =>
      have H := HA.out; clear HA; simp only [terrierlaw04_few.l0] at H
      by_cases c13 : x32_2 < (l0_3.length : Int)
      ·
       rw [if_pos c13] at H; have c13b0 := decide_eq_true c13; clear c13
       by_cases c14 : 0 ≤ x32_2
       ·
        rw [if_pos c14] at H; have c14b0 := decide_eq_true c14; clear c14
        by_cases c15 : x32_2 < (l0_3.length : Int)
        ·
         rw [if_pos c15] at H; have c15b0 := decide_eq_true c15; clear c15
         by_cases c16 : (((rd_T44 l0_3 x32_2).f0).length : Int) > 1000
         ·
          rw [if_pos c16] at H; have c16b0 := decide_eq_true c16; have c16b1 : decide (1000 < ((rd_T44 l0_3 x32_2).f0).length) = true := decide_eq_true (by omega); clear c16; obtain rfl := Option.some.inj H; have p232 : 0 ≤ (x32_2 : Int) := of_decide_eq_true (by first | (with_reducible assumption) | assumption); have q232 : x32_2 < (l0_3.length : Int) := of_decide_eq_true (by first | (with_reducible assumption) | assumption); obtain ⟨ad232, A232_0, c232_0, A232_1, c232_1, e232, hx232_0, hx232_1, hx232_2, hx232_3, hl232_0, hi232_0, hl232_1, hi232_1⟩ := at_T44 HR0_3.out x32_2 p232 q232; cases e232; replace hx232_0 := (HB.out.cell (World.block_lt_of_cell? w _ hx232_0)).trans hx232_0; replace hx232_1 := (HB.out.cell (World.block_lt_of_cell? w _ hx232_1)).trans hx232_1; replace hx232_2 := (HB.out.cell (World.block_lt_of_cell? w _ hx232_2)).trans hx232_2; replace hx232_3 := (HB.out.cell (World.block_lt_of_cell? w _ hx232_3)).trans hx232_3; have HR232_0 := Aside0.mk hi232_0; have HC232_0 := Aside0.mk hl232_0; clear hi232_0 hl232_0; have HR232_1 := Aside0.mk hi232_1; have HC232_1 := Aside0.mk hl232_1; clear hi232_1 hl232_1; replace p232 := eq_true p232; replace q232 := eq_true q232
          go_wp2_with (first | ((with_reducible refine gate_dst (N := 4) rfl ?_); (try (refine gate_guard (by rfl) ?_; dsimp only)); refine box_event ?hg (N := 4) ?hd (cs := #[.slice none 0 0, .slice none 0 0, .int .i64 0, .int .i64 0]) (t := 44) ?hr ?_; (case hd => rfl); (case hg => rfl); (case hr => first | (go_simp; done) | (go_simp; rfl)); intro gb233 hg w17 hbox hb; have BK233 := Ext.a (hbox); have GW233 := Ext.gw hg (below_size (Ext.s1 GE231.out HB.out)); have GE233 := Ext.gw hg (below_size (Ext.s1 GE231.out HB.out)); replace HB := Ext.a (below_step (Ext.s1 GE231.out HB.out) hb); have NB231_233 := Ext.nt hg (blk_lt BK231.out); have NB233_231 := Ext.ng hg (blk_lt BK231.out); replace BK231 := Ext.a (blk_below BK231.out hb); clear hb hbox hg; have hnb18 := NB233_231.out; have hnc18 := NB231_233.out; obtain ⟨hcz19_0, hcz19_1, hcz19_2, hcz19_3⟩ := Ext.cells4 BK233.out; obtain ⟨hfz19_0, hfz19_1, hfz19_2, hfz19_3⟩ := Ext.froz4 BK233.out))
          go_ret
          exact ⟨by first | rfl | (simp [errW_none, errW_some] <;> rfl) | (simp [*, errW_none, errW_some] <;> rfl), by exact Ext.s2 GE231.out GE233.out HB.out⟩
         ·
          rw [if_neg c16] at H; have c16b0 := decide_eq_false c16; have c16b1 : decide (1000 < ((rd_T44 l0_3 x32_2).f0).length) = false := decide_eq_false (by omega); clear c16
          by_cases c20 : (((rd_T44 l0_3 x32_2).f1).length : Int) > 1000
          ·
           rw [if_pos c20] at H; have c20b0 := decide_eq_true c20; have c20b1 : decide (1000 < ((rd_T44 l0_3 x32_2).f1).length) = true := decide_eq_true (by omega); clear c20; obtain rfl := Option.some.inj H; have p232 : 0 ≤ (x32_2 : Int) := of_decide_eq_true (by first | (with_reducible assumption) | assumption); have q232 : x32_2 < (l0_3.length : Int) := of_decide_eq_true (by first | (with_reducible assumption) | assumption); obtain ⟨ad232, A232_0, c232_0, A232_1, c232_1, e232, hx232_0, hx232_1, hx232_2, hx232_3, hl232_0, hi232_0, hl232_1, hi232_1⟩ := at_T44 HR0_3.out x32_2 p232 q232; cases e232; replace hx232_0 := (HB.out.cell (World.block_lt_of_cell? w _ hx232_0)).trans hx232_0; replace hx232_1 := (HB.out.cell (World.block_lt_of_cell? w _ hx232_1)).trans hx232_1; replace hx232_2 := (HB.out.cell (World.block_lt_of_cell? w _ hx232_2)).trans hx232_2; replace hx232_3 := (HB.out.cell (World.block_lt_of_cell? w _ hx232_3)).trans hx232_3; have HR232_0 := Aside0.mk hi232_0; have HC232_0 := Aside0.mk hl232_0; clear hi232_0 hl232_0; have HR232_1 := Aside0.mk hi232_1; have HC232_1 := Aside0.mk hl232_1; clear hi232_1 hl232_1; replace p232 := eq_true p232; replace q232 := eq_true q232
           go_wp2_with (first | ((with_reducible refine gate_dst (N := 4) rfl ?_); (try (refine gate_guard (by rfl) ?_; dsimp only)); refine box_event ?hg (N := 4) ?hd (cs := #[.slice none 0 0, .slice none 0 0, .int .i64 0, .int .i64 0]) (t := 44) ?hr ?_; (case hd => rfl); (case hg => rfl); (case hr => first | (go_simp; done) | (go_simp; rfl)); intro gb233 hg w21 hbox hb; have BK233 := Ext.a (hbox); have GW233 := Ext.gw hg (below_size (Ext.s1 GE231.out HB.out)); have GE233 := Ext.gw hg (below_size (Ext.s1 GE231.out HB.out)); replace HB := Ext.a (below_step (Ext.s1 GE231.out HB.out) hb); have NB231_233 := Ext.nt hg (blk_lt BK231.out); have NB233_231 := Ext.ng hg (blk_lt BK231.out); replace BK231 := Ext.a (blk_below BK231.out hb); clear hb hbox hg; have hnb22 := NB233_231.out; have hnc22 := NB231_233.out; obtain ⟨hcz23_0, hcz23_1, hcz23_2, hcz23_3⟩ := Ext.cells4 BK233.out; obtain ⟨hfz23_0, hfz23_1, hfz23_2, hfz23_3⟩ := Ext.froz4 BK233.out))
           go_ret
           exact ⟨by first | rfl | (simp [errW_none, errW_some] <;> rfl) | (simp [*, errW_none, errW_some] <;> rfl), by exact Ext.s2 GE231.out GE233.out HB.out⟩
          ·
           rw [if_neg c20] at H; have c20b0 := decide_eq_false c20; have c20b1 : decide (1000 < ((rd_T44 l0_3 x32_2).f1).length) = false := decide_eq_false (by omega); clear c20; have H' := Aside0.mk H; clear H; have p232 : 0 ≤ (x32_2 : Int) := of_decide_eq_true (by first | (with_reducible assumption) | assumption); have q232 : x32_2 < (l0_3.length : Int) := of_decide_eq_true (by first | (with_reducible assumption) | assumption); obtain ⟨ad232, A232_0, c232_0, A232_1, c232_1, e232, hx232_0, hx232_1, hx232_2, hx232_3, hl232_0, hi232_0, hl232_1, hi232_1⟩ := at_T44 HR0_3.out x32_2 p232 q232; cases e232; replace hx232_0 := (HB.out.cell (World.block_lt_of_cell? w _ hx232_0)).trans hx232_0; replace hx232_1 := (HB.out.cell (World.block_lt_of_cell? w _ hx232_1)).trans hx232_1; replace hx232_2 := (HB.out.cell (World.block_lt_of_cell? w _ hx232_2)).trans hx232_2; replace hx232_3 := (HB.out.cell (World.block_lt_of_cell? w _ hx232_3)).trans hx232_3; have HR232_0 := Aside0.mk hi232_0; have HC232_0 := Aside0.mk hl232_0; clear hi232_0 hl232_0; have HR232_1 := Aside0.mk hi232_1; have HC232_1 := Aside0.mk hl232_1; clear hi232_1 hl232_1; replace p232 := eq_true p232; replace q232 := eq_true q232
           go_wp2_with (first | ((with_reducible refine gate_dst (N := 4) rfl ?_); (try (refine gate_guard (by rfl) ?_; dsimp only)); refine box_event ?hg (N := 4) ?hd (cs := #[.slice none 0 0, .slice none 0 0, .int .i64 0, .int .i64 0]) (t := 44) ?hr ?_; (case hd => rfl); (case hg => rfl); (case hr => first | (go_simp; done) | (go_simp; rfl)); intro gb233 hg w24 hbox hb; have BK233 := Ext.a (hbox); have GW233 := Ext.gw hg (below_size (Ext.s1 GE231.out HB.out)); have GE233 := Ext.gw hg (below_size (Ext.s1 GE231.out HB.out)); replace HB := Ext.a (below_step (Ext.s1 GE231.out HB.out) hb); have NB231_233 := Ext.nt hg (blk_lt BK231.out); have NB233_231 := Ext.ng hg (blk_lt BK231.out); replace BK231 := Ext.a (blk_below BK231.out hb); clear hb hbox hg; have hnb25 := NB233_231.out; have hnc25 := NB231_233.out; obtain ⟨hcz26_0, hcz26_1, hcz26_2, hcz26_3⟩ := Ext.cells4 BK233.out; obtain ⟨hfz26_0, hfz26_1, hfz26_2, hfz26_3⟩ := Ext.froz4 BK233.out))
           go_roundg k2
           case measure => have := HJ1.out; have := HK2.out; omega
           case rel => exact ⟨(wrap64 (x32_2 + 1)), (by first | rfl | (simp; done) | (simp [*]; done)), H', ⟨by have := HJ1.out; have := HK2.out; omega⟩, ⟨by exact Ext.pb1 NB231_233.out BK231.out⟩, ⟨by exact Ext.s2 GE231.out GE233.out HB.out⟩⟩
        · rw [if_neg c15] at H; exact absurd H (by simp)
       · rw [if_neg c14] at H; exact absurd H (by simp)
      ·
       rw [if_neg c13] at H; have c13b0 := decide_eq_false c13; clear c13; have H' := Aside0.mk H; clear H; have hcz27 := Ext.cells7 BK231.out; have hfz27 := Ext.froz7 BK231.out
       go_wp2
       go_loopg [50] k2 (fun kq v50 w' => ∃ (x50_3 : Int), v50 = .int .i64 x50_3 ∧ Aside0 (terrierlaw04_few.l1 kq l0_4 (l0_4.length : Int) x50_3 = some r) ∧ Aside0 (kq ≤ k2) ∧ Aside0 (w'.heap[gb231]? = some (.cells #[.int .i64 a0_0, .int .u64 a0_1, .int .i64 a0_2, (.slice A0_3 l0_3.length c0_3), (.slice A0_4 l0_4.length c0_4), (.slice A0_5 l0_5.length c0_5), (.slice A0_6 l0_6.length c0_6)] 28 (0, 0))) ∧ Aside0 (Below w.heap.size w w'))
       case atStart => exact ⟨(0), (by first | rfl | (simp; done) | (simp [*]; done)), H', ⟨Nat.le_refl _⟩, ⟨by exact BK231.out⟩, ⟨by exact Ext.s1 GE231.out HB.out⟩⟩
       case round =>
        clear H'; (try clear c2 q2 hx2 p6 c13b0 c14b0 c15b0 c16b0 c16b1 c18 c20b0 c20b1 c22 c23 p23 q23 hx23 c25 hcz19_0 hcz19_1 hcz19_2 hcz19_3 hcz23_0 hcz23_1 hcz23_2 hcz23_3 hcz26_0 hcz26_1 hcz26_2 hcz26_3 hcz27 hfz19_0 hfz19_1 hfz19_2 hfz19_3 hfz23_0 hfz23_1 hfz23_2 hfz23_3 hfz26_0 hfz26_1 hfz26_2 hfz26_3 hfz27 hx232_0 hx232_1 hx232_2 hx232_3 p232 q232); obtain ⟨x50_3, rfl, HA, HK3, BK231, HB⟩ := hrel; cases gk with
        | zero => exact absurd HA.out (by simp [terrierlaw04_few.l1])
        | succ k3 =>
         have H := HA.out; clear HA; simp only [terrierlaw04_few.l1] at H
         by_cases c28 : x50_3 < (l0_4.length : Int)
         ·
          rw [if_pos c28] at H; have c28b0 := decide_eq_true c28; clear c28
          by_cases c29 : 0 ≤ x50_3
          ·
           rw [if_pos c29] at H; have c29b0 := decide_eq_true c29; clear c29
           by_cases c30 : x50_3 < (l0_4.length : Int)
           ·
            rw [if_pos c30] at H; have c30b0 := decide_eq_true c30; clear c30
            by_cases c31 : (((rd_T60 l0_4 x50_3).f0).length : Int) > 1000
            ·
             rw [if_pos c31] at H; have c31b0 := decide_eq_true c31; have c31b1 : decide (1000 < ((rd_T60 l0_4 x50_3).f0).length) = true := decide_eq_true (by omega); clear c31; obtain rfl := Option.some.inj H; have p234 : 0 ≤ (x50_3 : Int) := of_decide_eq_true (by first | (with_reducible assumption) | assumption); have q234 : x50_3 < (l0_4.length : Int) := of_decide_eq_true (by first | (with_reducible assumption) | assumption); obtain ⟨ad234, A234_0, c234_0, e234, hx234_0, hx234_1, hl234_0, hi234_0⟩ := at_T60 HR0_4.out x50_3 p234 q234; cases e234; replace hx234_0 := (HB.out.cell (World.block_lt_of_cell? w _ hx234_0)).trans hx234_0; replace hx234_1 := (HB.out.cell (World.block_lt_of_cell? w _ hx234_1)).trans hx234_1; have HR234_0 := Aside0.mk hi234_0; have HC234_0 := Aside0.mk hl234_0; clear hi234_0 hl234_0; replace p234 := eq_true p234; replace q234 := eq_true q234
             go_wp2_with (first | ((with_reducible refine gate_dst (N := 6) rfl ?_); (try (refine gate_guard (by rfl) ?_; dsimp only)); refine box_event ?hg (N := 6) ?hd (cs := #[.slice none 0 0, .int .i64 0]) (t := 60) ?hr ?_; (case hd => rfl); (case hg => rfl); (case hr => first | (go_simp; done) | (go_simp; rfl)); intro gb235 hg w32 hbox hb; have BK235 := Ext.a (hbox); have GW235 := Ext.gw hg (below_size (Ext.s1 GE231.out HB.out)); have GE235 := Ext.gw hg (below_size (Ext.s1 GE231.out HB.out)); replace HB := Ext.a (below_step (Ext.s1 GE231.out HB.out) hb); have NB231_235 := Ext.nt hg (blk_lt BK231.out); have NB235_231 := Ext.ng hg (blk_lt BK231.out); replace BK231 := Ext.a (blk_below BK231.out hb); clear hb hbox hg; have hnb33 := NB235_231.out; have hnc33 := NB231_235.out; have hcz34_0 : w32.cell? ⟨gb235, 0, none⟩ = some (.slice none 0 0) := (blk_cell BK235.out 0).trans rfl; have hcz34_1 : w32.cell? ⟨gb235, 1, none⟩ = some (.int .i64 0) := (blk_cell BK235.out 1).trans rfl; have hfz34_0 := blk_frozen BK235.out 0; have hfz34_1 := blk_frozen BK235.out 1))
             go_ret
             exact ⟨by first | rfl | (simp [errW_none, errW_some] <;> rfl) | (simp [*, errW_none, errW_some] <;> rfl), by exact Ext.s2 GE231.out GE235.out HB.out⟩
            ·
             rw [if_neg c31] at H; have c31b0 := decide_eq_false c31; have c31b1 : decide (1000 < ((rd_T60 l0_4 x50_3).f0).length) = false := decide_eq_false (by omega); clear c31; have H' := Aside0.mk H; clear H; have p234 : 0 ≤ (x50_3 : Int) := of_decide_eq_true (by first | (with_reducible assumption) | assumption); have q234 : x50_3 < (l0_4.length : Int) := of_decide_eq_true (by first | (with_reducible assumption) | assumption); obtain ⟨ad234, A234_0, c234_0, e234, hx234_0, hx234_1, hl234_0, hi234_0⟩ := at_T60 HR0_4.out x50_3 p234 q234; cases e234; replace hx234_0 := (HB.out.cell (World.block_lt_of_cell? w _ hx234_0)).trans hx234_0; replace hx234_1 := (HB.out.cell (World.block_lt_of_cell? w _ hx234_1)).trans hx234_1; have HR234_0 := Aside0.mk hi234_0; have HC234_0 := Aside0.mk hl234_0; clear hi234_0 hl234_0; replace p234 := eq_true p234; replace q234 := eq_true q234
             go_wp2_with (first | ((with_reducible refine gate_dst (N := 6) rfl ?_); (try (refine gate_guard (by rfl) ?_; dsimp only)); refine box_event ?hg (N := 6) ?hd (cs := #[.slice none 0 0, .int .i64 0]) (t := 60) ?hr ?_; (case hd => rfl); (case hg => rfl); (case hr => first | (go_simp; done) | (go_simp; rfl)); intro gb235 hg w35 hbox hb; have BK235 := Ext.a (hbox); have GW235 := Ext.gw hg (below_size (Ext.s1 GE231.out HB.out)); have GE235 := Ext.gw hg (below_size (Ext.s1 GE231.out HB.out)); replace HB := Ext.a (below_step (Ext.s1 GE231.out HB.out) hb); have NB231_235 := Ext.nt hg (blk_lt BK231.out); have NB235_231 := Ext.ng hg (blk_lt BK231.out); replace BK231 := Ext.a (blk_below BK231.out hb); clear hb hbox hg; have hnb36 := NB235_231.out; have hnc36 := NB231_235.out; have hcz37_0 : w35.cell? ⟨gb235, 0, none⟩ = some (.slice none 0 0) := (blk_cell BK235.out 0).trans rfl; have hcz37_1 : w35.cell? ⟨gb235, 1, none⟩ = some (.int .i64 0) := (blk_cell BK235.out 1).trans rfl; have hfz37_0 := blk_frozen BK235.out 0; have hfz37_1 := blk_frozen BK235.out 1))
             go_roundg k3
             case measure => have := HJ1.out; have := HK2.out; have := HK3.out; omega
             case rel => exact ⟨(wrap64 (x50_3 + 1)), (by first | rfl | (simp; done) | (simp [*]; done)), H', ⟨by have := HJ1.out; have := HK2.out; have := HK3.out; omega⟩, ⟨by exact Ext.pb1 NB231_235.out BK231.out⟩, ⟨by exact Ext.s2 GE231.out GE235.out HB.out⟩⟩
           · rw [if_neg c30] at H; exact absurd H (by simp)
          · rw [if_neg c29] at H; exact absurd H (by simp)
         ·
          rw [if_neg c28] at H; have c28b0 := decide_eq_false c28; clear c28; obtain rfl := Option.some.inj H
          go_wp2
          go_ret
          exact ⟨by first | rfl | (simp [errW_none, errW_some] <;> rfl) | (simp [*, errW_none, errW_some] <;> rfl), by exact Ext.s1 GE231.out HB.out⟩

end Go.Proofs.Ytandeendeoempaa.PC
