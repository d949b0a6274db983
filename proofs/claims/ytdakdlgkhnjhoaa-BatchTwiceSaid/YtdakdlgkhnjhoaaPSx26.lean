-- Written by wip/printx.py, a program of this work over the kit's print, for this claim.
import Derived.Test.YtdakdlgkhnjhoaaPSx0
import Derived.Test.YtdakdlgkhnjhoaaPSx4
import Derived.Test.YtdakdlgkhnjhoaaPSx25
namespace Go.Proofs.Ytdakdlgkhnjhoaa.PS
open Go.RowKit Go.Proofs.YtdakdlgkhnjhoaaW.PrintWords Go.Proofs.YtdakdlgkhnjhoaaW.PrintLast Go.Proofs.YtdakdlgkhnjhoaaW.PrintMore
attribute [local go_sem] max2_int min2_int max_two min_two max_three min_three max_four min_four   -- for this text's walks alone
attribute [local go_sem] Ext.pick_u8 Ext.pick_u32 Ext.pick_u64
set_option linter.unusedVariables false
set_option linter.unusedSimpArgs false

/-! ### batch_Sieve: function 12 -/
mutual
def batch_Sieve.l0 : Nat → List (S38) → List (S38) → Int → Int → List Int → List Int → Int → Bool → Bool → Bool → Option ((List (S38)))
  | 0, _, _, _, _, _, _, _, _, _, _ => none
  | k + 1, x5, x8, x9, x10, x277000, x277001, x277002, x277003, x277004, x277005 => if x10 < x9 then (if 0 ≤ x10 then (if x10 < (x8.length : Int) then ((octets_In.f k ((rd_T38 x8 x10).f1.f0) x277000 x277001).bind fun t279 => (if t279 = true then (if ((rd_T38 x8 x10).f0) = 1 then (if x277003 = true then (batch_Sieve.j1 k x5 x8 x9 x10 true x277000 x277001 x277002 x277003 x277004 x277005 ((rd_T38 x8 x10).f0) ((rd_T38 x8 x10).f1.f0) ((rd_T38 x8 x10).f1.f1) ((rd_T38 x8 x10).f1.f2) ((rd_T38 x8 x10).f1.f3) ((rd_T38 x8 x10).f1.f4) ((rd_T38 x8 x10).f1.f5) ((rd_T38 x8 x10).f2) ((rd_T38 x8 x10).f3.f0) ((rd_T38 x8 x10).f3.f1) ((rd_T38 x8 x10).f3.f2) ((rd_T38 x8 x10).f3.f3) ((rd_T38 x8 x10).f3.f4) ((rd_T38 x8 x10).f3.f5)) else (if ((rd_T38 x8 x10).f0) = 2 then (batch_Sieve.j1 k x5 x8 x9 x10 x277004 x277000 x277001 x277002 x277003 x277004 x277005 ((rd_T38 x8 x10).f0) ((rd_T38 x8 x10).f1.f0) ((rd_T38 x8 x10).f1.f1) ((rd_T38 x8 x10).f1.f2) ((rd_T38 x8 x10).f1.f3) ((rd_T38 x8 x10).f1.f4) ((rd_T38 x8 x10).f1.f5) ((rd_T38 x8 x10).f2) ((rd_T38 x8 x10).f3.f0) ((rd_T38 x8 x10).f3.f1) ((rd_T38 x8 x10).f3.f2) ((rd_T38 x8 x10).f3.f3) ((rd_T38 x8 x10).f3.f4) ((rd_T38 x8 x10).f3.f5)) else (batch_Sieve.j1 k x5 x8 x9 x10 false x277000 x277001 x277002 x277003 x277004 x277005 ((rd_T38 x8 x10).f0) ((rd_T38 x8 x10).f1.f0) ((rd_T38 x8 x10).f1.f1) ((rd_T38 x8 x10).f1.f2) ((rd_T38 x8 x10).f1.f3) ((rd_T38 x8 x10).f1.f4) ((rd_T38 x8 x10).f1.f5) ((rd_T38 x8 x10).f2) ((rd_T38 x8 x10).f3.f0) ((rd_T38 x8 x10).f3.f1) ((rd_T38 x8 x10).f3.f2) ((rd_T38 x8 x10).f3.f3) ((rd_T38 x8 x10).f3.f4) ((rd_T38 x8 x10).f3.f5)))) else (if ((rd_T38 x8 x10).f0) = 2 then (batch_Sieve.j1 k x5 x8 x9 x10 x277004 x277000 x277001 x277002 x277003 x277004 x277005 ((rd_T38 x8 x10).f0) ((rd_T38 x8 x10).f1.f0) ((rd_T38 x8 x10).f1.f1) ((rd_T38 x8 x10).f1.f2) ((rd_T38 x8 x10).f1.f3) ((rd_T38 x8 x10).f1.f4) ((rd_T38 x8 x10).f1.f5) ((rd_T38 x8 x10).f2) ((rd_T38 x8 x10).f3.f0) ((rd_T38 x8 x10).f3.f1) ((rd_T38 x8 x10).f3.f2) ((rd_T38 x8 x10).f3.f3) ((rd_T38 x8 x10).f3.f4) ((rd_T38 x8 x10).f3.f5)) else (batch_Sieve.j1 k x5 x8 x9 x10 false x277000 x277001 x277002 x277003 x277004 x277005 ((rd_T38 x8 x10).f0) ((rd_T38 x8 x10).f1.f0) ((rd_T38 x8 x10).f1.f1) ((rd_T38 x8 x10).f1.f2) ((rd_T38 x8 x10).f1.f3) ((rd_T38 x8 x10).f1.f4) ((rd_T38 x8 x10).f1.f5) ((rd_T38 x8 x10).f2) ((rd_T38 x8 x10).f3.f0) ((rd_T38 x8 x10).f3.f1) ((rd_T38 x8 x10).f3.f2) ((rd_T38 x8 x10).f3.f3) ((rd_T38 x8 x10).f3.f4) ((rd_T38 x8 x10).f3.f5)))) else (batch_Sieve.j1 k x5 x8 x9 x10 true x277000 x277001 x277002 x277003 x277004 x277005 ((rd_T38 x8 x10).f0) ((rd_T38 x8 x10).f1.f0) ((rd_T38 x8 x10).f1.f1) ((rd_T38 x8 x10).f1.f2) ((rd_T38 x8 x10).f1.f3) ((rd_T38 x8 x10).f1.f4) ((rd_T38 x8 x10).f1.f5) ((rd_T38 x8 x10).f2) ((rd_T38 x8 x10).f3.f0) ((rd_T38 x8 x10).f3.f1) ((rd_T38 x8 x10).f3.f2) ((rd_T38 x8 x10).f3.f3) ((rd_T38 x8 x10).f3.f4) ((rd_T38 x8 x10).f3.f5)))) else (none)) else (none)) else (some x5)
def batch_Sieve.j1 : Nat → List (S38) → List (S38) → Int → Int → Bool → List Int → List Int → Int → Bool → Bool → Bool → Int → List Int → List Int → Int → Int → Int → Int → Bool → List Int → List Int → Int → Int → Int → Int → Option ((List (S38)))
  | 0, _, _, _, _, _, _, _, _, _, _, _, _, _, _, _, _, _, _, _, _, _, _, _, _, _ => none
  | k + 1, x5, x8, x9, x10, x40, x277000, x277001, x277002, x277003, x277004, x277005, x279000, x279001, x279002, x279003, x279004, x279005, x279006, x279007, x279008, x279009, x279010, x279011, x279012, x279013 => if x40 = true then (batch_Sieve.l0 k x5 x8 x9 (wrap64 (x10 + 1)) x277000 x277001 x277002 x277003 x277004 x277005) else (if x277005 = true then ((batch_twin.f x279000 x279001 x279002 x279003 x279004 x279005 x279006 x279007 x279008 x279009 x279010 x279011 x279012 x279013).bind fun bt280 => (if x5.length < 799644820200 then (batch_Sieve.l0 k (x5 ++ [(⟨bt280.1, (⟨bt280.2.1, bt280.2.2.1, bt280.2.2.2.1, bt280.2.2.2.2.1, bt280.2.2.2.2.2.1, bt280.2.2.2.2.2.2.1⟩ : S36), bt280.2.2.2.2.2.2.2.1, (⟨bt280.2.2.2.2.2.2.2.2.1, bt280.2.2.2.2.2.2.2.2.2.1, bt280.2.2.2.2.2.2.2.2.2.2.1, bt280.2.2.2.2.2.2.2.2.2.2.2.1, bt280.2.2.2.2.2.2.2.2.2.2.2.2.1, bt280.2.2.2.2.2.2.2.2.2.2.2.2.2⟩ : S36)⟩ : S38)]) x8 x9 (wrap64 (x10 + 1)) x277000 x277001 x277002 x277003 x277004 x277005) else (none))) else ((batch_twin.f x279000 x279001 x279002 x279003 x279004 x279005 x279006 false ([] : List Int) ([] : List Int) 0 0 0 0).bind fun bt305 => (if x5.length < 799644820200 then (batch_Sieve.l0 k (x5 ++ [(⟨bt305.1, (⟨bt305.2.1, bt305.2.2.1, bt305.2.2.2.1, bt305.2.2.2.2.1, bt305.2.2.2.2.2.1, bt305.2.2.2.2.2.2.1⟩ : S36), bt305.2.2.2.2.2.2.2.1, (⟨bt305.2.2.2.2.2.2.2.2.1, bt305.2.2.2.2.2.2.2.2.2.1, bt305.2.2.2.2.2.2.2.2.2.2.1, bt305.2.2.2.2.2.2.2.2.2.2.2.1, bt305.2.2.2.2.2.2.2.2.2.2.2.2.1, bt305.2.2.2.2.2.2.2.2.2.2.2.2.2⟩ : S36)⟩ : S38)]) x8 x9 (wrap64 (x10 + 1)) x277000 x277001 x277002 x277003 x277004 x277005) else (none))))
end
def batch_Sieve.f (k : Nat) (l0_0 : List Int) (l0_1 : List Int) (a0_2 : Int) (a0_3 : Bool) (a0_4 : Bool) (a0_5 : Bool) (l1 : List (S38)) : Option ((List (S38))) := batch_Sieve.l0 k ([] : List (S38)) l1 (l1.length : Int) 0 l0_0 l0_1 a0_2 a0_3 a0_4 a0_5
theorem batch_Sieve.mono_l : ∀ k, (∀ y0 y1 y2 y3 y4 y5 y6 y7 y8 y9, LeO (batch_Sieve.l0 k y0 y1 y2 y3 y4 y5 y6 y7 y8 y9) (batch_Sieve.l0 (k + 1) y0 y1 y2 y3 y4 y5 y6 y7 y8 y9)) ∧ (∀ y0 y1 y2 y3 y4 y5 y6 y7 y8 y9 y10 y11 y12 y13 y14 y15 y16 y17 y18 y19 y20 y21 y22 y23 y24, LeO (batch_Sieve.j1 k y0 y1 y2 y3 y4 y5 y6 y7 y8 y9 y10 y11 y12 y13 y14 y15 y16 y17 y18 y19 y20 y21 y22 y23 y24) (batch_Sieve.j1 (k + 1) y0 y1 y2 y3 y4 y5 y6 y7 y8 y9 y10 y11 y12 y13 y14 y15 y16 y17 y18 y19 y20 y21 y22 y23 y24))
  | 0 => ⟨fun _ _ _ _ _ _ _ _ _ _ r h => by simp [batch_Sieve.l0] at h, fun _ _ _ _ _ _ _ _ _ _ _ _ _ _ _ _ _ _ _ _ _ _ _ _ _ r h => by simp [batch_Sieve.j1] at h⟩
  | k + 1 => by
    obtain ⟨ih0, ih1⟩ := batch_Sieve.mono_l k
    refine ⟨?_, ?_⟩
    · intro y0 y1 y2 y3 y4 y5 y6 y7 y8 y9
      unfold batch_Sieve.l0
      repeat' first
      | (with_reducible exact ih0 _ _ _ _ _ _ _ _ _ _)
      | (with_reducible exact ih1 _ _ _ _ _ _ _ _ _ _ _ _ _ _ _ _ _ _ _ _ _ _ _ _ _)
      | (with_reducible exact octets_In.mono _ _ _ _)
      | (with_reducible exact LeO.refl _)
      | (with_reducible exact LeO.none _)
      | (with_reducible refine LeO.ite ?_ ?_)
      | (with_reducible refine LeO.bind ?_ (fun _ => ?_))
      | exact ih0 _ _ _ _ _ _ _ _ _ _
      | exact ih1 _ _ _ _ _ _ _ _ _ _ _ _ _ _ _ _ _ _ _ _ _ _ _ _ _
      | exact octets_In.mono _ _ _ _
      | exact LeO.none _
      | refine LeO.ite ?_ ?_
      | refine LeO.bind ?_ (fun _ => ?_)
    · intro y0 y1 y2 y3 y4 y5 y6 y7 y8 y9 y10 y11 y12 y13 y14 y15 y16 y17 y18 y19 y20 y21 y22 y23 y24
      unfold batch_Sieve.j1
      repeat' first
      | (with_reducible exact ih0 _ _ _ _ _ _ _ _ _ _)
      | (with_reducible exact ih1 _ _ _ _ _ _ _ _ _ _ _ _ _ _ _ _ _ _ _ _ _ _ _ _ _)
      | (with_reducible exact octets_In.mono _ _ _ _)
      | (with_reducible exact LeO.refl _)
      | (with_reducible exact LeO.none _)
      | (with_reducible refine LeO.ite ?_ ?_)
      | (with_reducible refine LeO.bind ?_ (fun _ => ?_))
      | exact ih0 _ _ _ _ _ _ _ _ _ _
      | exact ih1 _ _ _ _ _ _ _ _ _ _ _ _ _ _ _ _ _ _ _ _ _ _ _ _ _
      | exact octets_In.mono _ _ _ _
      | exact LeO.none _
      | refine LeO.ite ?_ ?_
      | refine LeO.bind ?_ (fun _ => ?_)
theorem batch_Sieve.mono : ∀ a0 a1 a2 a3 a4 a5 a6 k, LeO (batch_Sieve.f k a0 a1 a2 a3 a4 a5 a6) (batch_Sieve.f (k + 1) a0 a1 a2 a3 a4 a5 a6) := by
  intro a0 a1 a2 a3 a4 a5 a6 k
  obtain ⟨ih0, ih1⟩ := batch_Sieve.mono_l k
  unfold batch_Sieve.f
  repeat' first
      | (with_reducible exact ih0 _ _ _ _ _ _ _ _ _ _)
      | (with_reducible exact ih1 _ _ _ _ _ _ _ _ _ _ _ _ _ _ _ _ _ _ _ _ _ _ _ _ _)
      | (with_reducible exact octets_In.mono _ _ _ _)
      | (with_reducible exact LeO.refl _)
      | (with_reducible exact LeO.none _)
      | (with_reducible refine LeO.ite ?_ ?_)
      | (with_reducible refine LeO.bind ?_ (fun _ => ?_))
      | exact ih0 _ _ _ _ _ _ _ _ _ _
      | exact ih1 _ _ _ _ _ _ _ _ _ _ _ _ _ _ _ _ _ _ _ _ _ _ _ _ _
      | exact octets_In.mono _ _ _ _
      | exact LeO.none _
      | refine LeO.ite ?_ ?_
      | refine LeO.bind ?_ (fun _ => ?_)
set_option maxHeartbeats 8000000 in
set_option maxRecDepth 100000 in
theorem batch_Sieve.calls (k : Nat) (A0_0 : Option Addr) (c0_0 : Nat) (l0_0 : List Int) (A0_1 : Option Addr) (c0_1 : Nat) (l0_1 : List Int) (a0_2 : Int) (a0_3 : Bool) (a0_4 : Bool) (a0_5 : Bool) (A1 : Option Addr) (c1 : Nat) (l1 : List (S38)) (r : List (S38)) (w : World) (hr0_0 : Kd.C (Kd.int .u8) w A0_0 l0_0.length l0_0) (hc0_0 : l0_0.length ≤ c0_0) (hr0_1 : Kd.C (Kd.int .u8) w A0_1 l0_1.length l0_1) (hc0_1 : l0_1.length ≤ c0_1) (hr1 : Kd.C k38 w A1 l1.length l1) (hc1 : l1.length ≤ c1) (h : batch_Sieve.f k l0_0 l0_1 a0_2 a0_3 a0_4 a0_5 l1 = some r) :
    Calls Try.prog 12 #[.agg #[.slice A0_0 l0_0.length c0_0, .slice A0_1 l0_1.length c0_1, .int .i64 a0_2, .bool a0_3, .bool a0_4, .bool a0_5], .slice A1 l1.length c1] w fun e w' => ∃ v0_ : Value, e = .returned (v0_) ∧ Kd.S k38 38 w' w.heap.size (fun _ => True) v0_ r ∧ Below w.heap.size w w' := by
  have hu28 := Try.underlying28
  have hu38 := Try.underlying38
  have hu36 := Try.underlying36
  have HR0_0 := Aside0.mk hr0_0
  have HC0_0 := Aside0.mk hc0_0
  clear hr0_0 hc0_0
  have HR0_1 := Aside0.mk hr0_1
  have HC0_1 := Aside0.mk hc0_1
  clear hr0_1 hc0_1
  have HR1 := Aside0.mk hr1
  have HC1 := Aside0.mk hc1
  clear hr1 hc1
  have HB := Aside0.mk (Below.refl w.heap.size w)
  have H : (batch_Sieve.l0 k ([] : List (S38)) l1 (l1.length : Int) 0 l0_0 l0_1 a0_2 a0_3 a0_4 a0_5) = some r := h
  clear h
  have H' := Aside0.mk H
  clear H
  go_enter Try.func12, Try.ntmps12
  go_wp2_with (first | ((with_reducible refine gate_dst (N := 2) rfl ?_); refine box_event ?hg (N := 2) ?hd (cs := #[.slice A0_0 l0_0.length c0_0, .slice A0_1 l0_1.length c0_1, .int .i64 a0_2, .bool a0_3, .bool a0_4, .bool a0_5]) (t := 28) ?hr ?_; (case hd => rfl); (case hg => rfl); (case hr => first | (go_simp; done) | (go_simp; rfl)); intro gb276 hg w3 hbox hb; have n0_ := Aside0.mk (below_step (by repeat (first | (with_reducible first | exact HB.out | apply below_alloc | apply pw_below_drewN | apply below_drew1) | exact HB.out | exact Below.refl _ _)) hb); have n1_ := Aside0.mk (hbox); have n2_ := Aside0.mk ((by rw [hg]; exact (below_size (by repeat (first | (with_reducible first | exact HB.out | apply below_alloc | apply pw_below_drewN | apply below_drew1) | exact HB.out | exact Below.refl _ _))) : w.heap.size ≤ gb276)); have n3_ := Aside0.mk ((by rw [hg]; exact (below_size (by repeat (first | (with_reducible first | exact HB.out | apply below_alloc | apply pw_below_drewN | apply below_drew1) | exact HB.out | exact Below.refl _ _))) : w.heap.size ≤ gb276)); clear HB; have HB := n0_; have BK276 := n1_; have GW276 := n2_; have GE276 := n3_; clear n0_ n1_ n2_ n3_; clear hb hbox hg))
  go_loopg [5, 10] k (fun kq v5 v10 w' => ∃ (x5_1 : List (S38)) (x10_1 : Int), v10 = .int .i64 x10_1 ∧ Aside0 (batch_Sieve.l0 kq x5_1 l1 (l1.length : Int) x10_1 l0_0 l0_1 a0_2 a0_3 a0_4 a0_5 = some r) ∧ Aside0 (kq ≤ k) ∧ Aside0 (Kd.S k38 38 w' w.heap.size (fun _ => True) v5 x5_1) ∧ Aside0 (w'.heap[gb276]? = some (.cells #[(.slice A0_0 l0_0.length c0_0), (.slice A0_1 l0_1.length c0_1), .int .i64 a0_2, .bool a0_3, .bool a0_4, .bool a0_5] 28 (0, 0))) ∧ Aside0 (Below w.heap.size w w'))
  case atStart => exact ⟨(([] : List (S38))), (0), (by first | rfl | (simp; done) | (simp [*]; done)), H', ⟨Nat.le_refl _⟩, ⟨by first | exact Kd.S_nil _ _ _ _ _ | exact Kd.N_nil _ _ _ _ _ | exact Kd.V_nil _ _ _ _ _ | exact Kd.Q_nil _ _ _ _ _ | exact Kd.R_nil _ _ _ _ _⟩, ⟨by (with_reducible repeat (first | refine blk_drewN ?_ _ | refine blk_drew ?_ | refine blk_alloc ?_ _)); exact BK276.out⟩, ⟨by repeat (first | (with_reducible first | exact HB.out | apply below_alloc | apply pw_below_drewN | apply below_drew1 | refine below_set ?_ GE276.out) | exact HB.out | exact Below.refl _ _)⟩⟩
  case round =>
    clear H'
    try clear c1
    try clear p2
    obtain ⟨x5_1, x10_1, rfl, HA, HK1, HO_5, BK276, HB⟩ := hrel
    cases gk with
    | zero => exact absurd HA.out (by simp [batch_Sieve.l0])
    | succ k1 =>
      have H := HA.out
      clear HA
      simp only [batch_Sieve.l0] at H
      by_cases c4 : x10_1 < (l1.length : Int)
      · rw [if_pos c4] at H
        have c4b0 : decide (x10_1 < (l1.length : Int)) = true := decide_eq_true c4
        clear c4
        by_cases c5 : 0 ≤ x10_1
        · rw [if_pos c5] at H
          have c5b0 : decide (0 ≤ x10_1) = true := decide_eq_true c5
          clear c5
          by_cases c6 : x10_1 < (l1.length : Int)
          · rw [if_pos c6] at H
            have c6b0 : decide (x10_1 < (l1.length : Int)) = true := decide_eq_true c6
            clear c6
            have HC7 := Aside0.mk H
            clear H
            have p277 : 0 ≤ (x10_1 : Int) := of_decide_eq_true (by first | (with_reducible assumption) | assumption)
            have q277 : x10_1 < (l1.length : Int) := of_decide_eq_true (by first | (with_reducible assumption) | assumption)
            obtain ⟨ad277, A277_1, c277_1, A277_2, c277_2, A277_8, c277_8, A277_9, c277_9, e277, hx277_0, hx277_1, hx277_2, hx277_3, hx277_4, hx277_5, hx277_6, hx277_7, hx277_8, hx277_9, hx277_10, hx277_11, hx277_12, hx277_13, hl277_1, hi277_1, hl277_2, hi277_2, hl277_8, hi277_8, hl277_9, hi277_9⟩ := at_T38 HR1.out x10_1 p277 q277
            cases e277
            replace hx277_0 := (HB.out.cell (World.block_lt_of_cell? w _ hx277_0)).trans hx277_0
            replace hx277_1 := (HB.out.cell (World.block_lt_of_cell? w _ hx277_1)).trans hx277_1
            replace hx277_2 := (HB.out.cell (World.block_lt_of_cell? w _ hx277_2)).trans hx277_2
            replace hx277_3 := (HB.out.cell (World.block_lt_of_cell? w _ hx277_3)).trans hx277_3
            replace hx277_4 := (HB.out.cell (World.block_lt_of_cell? w _ hx277_4)).trans hx277_4
            replace hx277_5 := (HB.out.cell (World.block_lt_of_cell? w _ hx277_5)).trans hx277_5
            replace hx277_6 := (HB.out.cell (World.block_lt_of_cell? w _ hx277_6)).trans hx277_6
            replace hx277_7 := (HB.out.cell (World.block_lt_of_cell? w _ hx277_7)).trans hx277_7
            replace hx277_8 := (HB.out.cell (World.block_lt_of_cell? w _ hx277_8)).trans hx277_8
            replace hx277_9 := (HB.out.cell (World.block_lt_of_cell? w _ hx277_9)).trans hx277_9
            replace hx277_10 := (HB.out.cell (World.block_lt_of_cell? w _ hx277_10)).trans hx277_10
            replace hx277_11 := (HB.out.cell (World.block_lt_of_cell? w _ hx277_11)).trans hx277_11
            replace hx277_12 := (HB.out.cell (World.block_lt_of_cell? w _ hx277_12)).trans hx277_12
            replace hx277_13 := (HB.out.cell (World.block_lt_of_cell? w _ hx277_13)).trans hx277_13
            have HR277_1 := Aside0.mk hi277_1
            have HC277_1 := Aside0.mk hl277_1
            clear hi277_1 hl277_1
            have HR277_2 := Aside0.mk hi277_2
            have HC277_2 := Aside0.mk hl277_2
            clear hi277_2 hl277_2
            have HR277_8 := Aside0.mk hi277_8
            have HC277_8 := Aside0.mk hl277_8
            clear hi277_8 hl277_8
            have HR277_9 := Aside0.mk hi277_9
            have HC277_9 := Aside0.mk hl277_9
            clear hi277_9 hl277_9
            replace p277 := eq_true p277
            replace q277 := eq_true q277
            go_upto_region 5 with (first | ((with_reducible refine gate_dst (N := 7) rfl ?_); refine box_event ?hg (N := 7) ?hd (cs := #[.int .i64 0, .slice none 0 0, .slice none 0 0, .int .i64 0, .int .i64 0, .int .i64 0, .int .i64 0, .bool false, .slice none 0 0, .slice none 0 0, .int .i64 0, .int .i64 0, .int .i64 0, .int .i64 0]) (t := 38) ?hr ?_; (case hd => rfl); (case hg => rfl); (case hr => first | (go_simp; done) | (go_simp; rfl)); intro gb278 hg w8 hbox hb; have n0_ := Aside0.mk (Kd.S_below (Kd.S_elderB (by (with_reducible repeat (first | apply Kd.S_alloc | apply Kd.S_drewN | apply Kd.S_drew)); exact HO_5.out) gb278 (Nat.le_of_eq hg.symm)) hb); have n1_ := Aside0.mk (blk_below (g := gb276) (o := .cells #[.slice A0_0 l0_0.length c0_0, .slice A0_1 l0_1.length c0_1, .int .i64 a0_2, .bool a0_3, .bool a0_4, .bool a0_5] 28 (0, 0)) (by (with_reducible repeat (first | refine blk_drewN ?_ _ | refine blk_drew ?_ | refine blk_alloc ?_ _)); exact BK276.out) hb); have n2_ := Aside0.mk (below_step (by repeat (first | (with_reducible first | exact HB.out | apply below_alloc | apply pw_below_drewN | apply below_drew1 | refine below_set ?_ GE276.out) | exact HB.out | exact Below.refl _ _)) hb); have n3_ := Aside0.mk (hbox); have n4_ := Aside0.mk ((by rw [hg]; exact (below_size (by repeat (first | (with_reducible first | exact HB.out | apply below_alloc | apply pw_below_drewN | apply below_drew1 | refine below_set ?_ GE276.out) | exact HB.out | exact Below.refl _ _))) : w.heap.size ≤ gb278)); have n5_ := Aside0.mk ((by rw [hg]; exact (below_size (by repeat (first | (with_reducible first | exact HB.out | apply below_alloc | apply pw_below_drewN | apply below_drew1 | refine below_set ?_ GE276.out) | exact HB.out | exact Below.refl _ _))) : w.heap.size ≤ gb278)); have n6_ := Aside0.mk ((by rw [hg]; exact Nat.ne_of_lt (blk_lt (g := gb276) (o := .cells #[.slice A0_0 l0_0.length c0_0, .slice A0_1 l0_1.length c0_1, .int .i64 a0_2, .bool a0_3, .bool a0_4, .bool a0_5] 28 (0, 0)) (by (with_reducible repeat (first | refine blk_drewN ?_ _ | refine blk_drew ?_ | refine blk_alloc ?_ _)); exact BK276.out)) : gb276 ≠ gb278)); have n7_ := Aside0.mk ((by rw [hg]; exact Nat.ne_of_gt (blk_lt (g := gb276) (o := .cells #[.slice A0_0 l0_0.length c0_0, .slice A0_1 l0_1.length c0_1, .int .i64 a0_2, .bool a0_3, .bool a0_4, .bool a0_5] 28 (0, 0)) (by (with_reducible repeat (first | refine blk_drewN ?_ _ | refine blk_drew ?_ | refine blk_alloc ?_ _)); exact BK276.out)) : gb278 ≠ gb276)); clear HO_5; clear BK276; clear HB; have HO_5 := n0_; have BK276 := n1_; have HB := n2_; have BK278 := n3_; have GW278 := n4_; have GE278 := n5_; have NB276_278 := n6_; have NB278_276 := n7_; clear n0_ n1_ n2_ n3_ n4_ n5_ n6_ n7_; clear hb hbox hg; have hnb9 := NB278_276.out; have hnc9 := NB276_278.out; have hcz10_0 : w8.cell? ⟨gb278, 0, none⟩ = some (.int .i64 0) := (blk_cell BK278.out 0).trans rfl; have hcz10_1 : w8.cell? ⟨gb278, 1, none⟩ = some (.slice none 0 0) := (blk_cell BK278.out 1).trans rfl; have hcz10_2 : w8.cell? ⟨gb278, 2, none⟩ = some (.slice none 0 0) := (blk_cell BK278.out 2).trans rfl; have hcz10_3 : w8.cell? ⟨gb278, 3, none⟩ = some (.int .i64 0) := (blk_cell BK278.out 3).trans rfl; have hcz10_4 : w8.cell? ⟨gb278, 4, none⟩ = some (.int .i64 0) := (blk_cell BK278.out 4).trans rfl; have hcz10_5 : w8.cell? ⟨gb278, 5, none⟩ = some (.int .i64 0) := (blk_cell BK278.out 5).trans rfl; have hcz10_6 : w8.cell? ⟨gb278, 6, none⟩ = some (.int .i64 0) := (blk_cell BK278.out 6).trans rfl; have hcz10_7 : w8.cell? ⟨gb278, 7, none⟩ = some (.bool false) := (blk_cell BK278.out 7).trans rfl; have hcz10_8 : w8.cell? ⟨gb278, 8, none⟩ = some (.slice none 0 0) := (blk_cell BK278.out 8).trans rfl; have hcz10_9 : w8.cell? ⟨gb278, 9, none⟩ = some (.slice none 0 0) := (blk_cell BK278.out 9).trans rfl; have hcz10_10 : w8.cell? ⟨gb278, 10, none⟩ = some (.int .i64 0) := (blk_cell BK278.out 10).trans rfl; have hcz10_11 : w8.cell? ⟨gb278, 11, none⟩ = some (.int .i64 0) := (blk_cell BK278.out 11).trans rfl; have hcz10_12 : w8.cell? ⟨gb278, 12, none⟩ = some (.int .i64 0) := (blk_cell BK278.out 12).trans rfl; have hcz10_13 : w8.cell? ⟨gb278, 13, none⟩ = some (.int .i64 0) := (blk_cell BK278.out 13).trans rfl; have hfz10_0 := blk_frozen BK278.out 0; have hfz10_1 := blk_frozen BK278.out 1; have hfz10_2 := blk_frozen BK278.out 2; have hfz10_3 := blk_frozen BK278.out 3; have hfz10_4 := blk_frozen BK278.out 4; have hfz10_5 := blk_frozen BK278.out 5; have hfz10_6 := blk_frozen BK278.out 6; have hfz10_7 := blk_frozen BK278.out 7; have hfz10_8 := blk_frozen BK278.out 8; have hfz10_9 := blk_frozen BK278.out 9; have hfz10_10 := blk_frozen BK278.out 10; have hfz10_11 := blk_frozen BK278.out 11; have hfz10_12 := blk_frozen BK278.out 12; have hfz10_13 := blk_frozen BK278.out 13))
            (try simp only [Act.put, List.setIfInBounds_toArray, List.set_cons_zero, List.set_cons_succ])
            go_cut [40] (fun v40 wc => ∃ (kq : Nat) (x40_6 : Bool), v40 = .bool x40_6 ∧ Aside0 (batch_Sieve.j1 kq x5_1 l1 (l1.length : Int) x10_1 x40_6 l0_0 l0_1 a0_2 a0_3 a0_4 a0_5 ((rd_T38 l1 x10_1).f0) ((rd_T38 l1 x10_1).f1.f0) ((rd_T38 l1 x10_1).f1.f1) ((rd_T38 l1 x10_1).f1.f2) ((rd_T38 l1 x10_1).f1.f3) ((rd_T38 l1 x10_1).f1.f4) ((rd_T38 l1 x10_1).f1.f5) ((rd_T38 l1 x10_1).f2) ((rd_T38 l1 x10_1).f3.f0) ((rd_T38 l1 x10_1).f3.f1) ((rd_T38 l1 x10_1).f3.f2) ((rd_T38 l1 x10_1).f3.f3) ((rd_T38 l1 x10_1).f3.f4) ((rd_T38 l1 x10_1).f3.f5) = some r) ∧ Aside0 (kq ≤ k1) ∧ Aside0 (Kd.S k38 38 wc w.heap.size (fun k_ => k_ ≠ gb278) u5 x5_1) ∧ Aside0 (wc.heap[gb276]? = some (.cells #[(.slice A0_0 l0_0.length c0_0), (.slice A0_1 l0_1.length c0_1), .int .i64 a0_2, .bool a0_3, .bool a0_4, .bool a0_5] 28 (0, 0))) ∧ Aside0 (wc.heap[gb278]? = some (.cells #[.int .i64 ((rd_T38 l1 x10_1).f0), (.slice A277_1 ((rd_T38 l1 x10_1).f1.f0).length c277_1), (.slice A277_2 ((rd_T38 l1 x10_1).f1.f1).length c277_2), .int .i64 ((rd_T38 l1 x10_1).f1.f2), .int .i64 ((rd_T38 l1 x10_1).f1.f3), .int .i64 ((rd_T38 l1 x10_1).f1.f4), .int .i64 ((rd_T38 l1 x10_1).f1.f5), .bool ((rd_T38 l1 x10_1).f2), (.slice A277_8 ((rd_T38 l1 x10_1).f3.f0).length c277_8), (.slice A277_9 ((rd_T38 l1 x10_1).f3.f1).length c277_9), .int .i64 ((rd_T38 l1 x10_1).f3.f2), .int .i64 ((rd_T38 l1 x10_1).f3.f3), .int .i64 ((rd_T38 l1 x10_1).f3.f4), .int .i64 ((rd_T38 l1 x10_1).f3.f5)] 38 (0, 0))) ∧ Aside0 (Below w.heap.size w wc))
            case first =>
              have H := HC7.out
              clear HC7
              replace H := Option.bind_eq_some_iff.mp H
              obtain ⟨t279, A110, H⟩ := H
              replace H : (if t279 = true then (if ((rd_T38 l1 x10_1).f0) = 1 then (if a0_3 = true then (batch_Sieve.j1 k1 x5_1 l1 (l1.length : Int) x10_1 true l0_0 l0_1 a0_2 a0_3 a0_4 a0_5 ((rd_T38 l1 x10_1).f0) ((rd_T38 l1 x10_1).f1.f0) ((rd_T38 l1 x10_1).f1.f1) ((rd_T38 l1 x10_1).f1.f2) ((rd_T38 l1 x10_1).f1.f3) ((rd_T38 l1 x10_1).f1.f4) ((rd_T38 l1 x10_1).f1.f5) ((rd_T38 l1 x10_1).f2) ((rd_T38 l1 x10_1).f3.f0) ((rd_T38 l1 x10_1).f3.f1) ((rd_T38 l1 x10_1).f3.f2) ((rd_T38 l1 x10_1).f3.f3) ((rd_T38 l1 x10_1).f3.f4) ((rd_T38 l1 x10_1).f3.f5)) else (if ((rd_T38 l1 x10_1).f0) = 2 then (batch_Sieve.j1 k1 x5_1 l1 (l1.length : Int) x10_1 a0_4 l0_0 l0_1 a0_2 a0_3 a0_4 a0_5 ((rd_T38 l1 x10_1).f0) ((rd_T38 l1 x10_1).f1.f0) ((rd_T38 l1 x10_1).f1.f1) ((rd_T38 l1 x10_1).f1.f2) ((rd_T38 l1 x10_1).f1.f3) ((rd_T38 l1 x10_1).f1.f4) ((rd_T38 l1 x10_1).f1.f5) ((rd_T38 l1 x10_1).f2) ((rd_T38 l1 x10_1).f3.f0) ((rd_T38 l1 x10_1).f3.f1) ((rd_T38 l1 x10_1).f3.f2) ((rd_T38 l1 x10_1).f3.f3) ((rd_T38 l1 x10_1).f3.f4) ((rd_T38 l1 x10_1).f3.f5)) else (batch_Sieve.j1 k1 x5_1 l1 (l1.length : Int) x10_1 false l0_0 l0_1 a0_2 a0_3 a0_4 a0_5 ((rd_T38 l1 x10_1).f0) ((rd_T38 l1 x10_1).f1.f0) ((rd_T38 l1 x10_1).f1.f1) ((rd_T38 l1 x10_1).f1.f2) ((rd_T38 l1 x10_1).f1.f3) ((rd_T38 l1 x10_1).f1.f4) ((rd_T38 l1 x10_1).f1.f5) ((rd_T38 l1 x10_1).f2) ((rd_T38 l1 x10_1).f3.f0) ((rd_T38 l1 x10_1).f3.f1) ((rd_T38 l1 x10_1).f3.f2) ((rd_T38 l1 x10_1).f3.f3) ((rd_T38 l1 x10_1).f3.f4) ((rd_T38 l1 x10_1).f3.f5)))) else (if ((rd_T38 l1 x10_1).f0) = 2 then (batch_Sieve.j1 k1 x5_1 l1 (l1.length : Int) x10_1 a0_4 l0_0 l0_1 a0_2 a0_3 a0_4 a0_5 ((rd_T38 l1 x10_1).f0) ((rd_T38 l1 x10_1).f1.f0) ((rd_T38 l1 x10_1).f1.f1) ((rd_T38 l1 x10_1).f1.f2) ((rd_T38 l1 x10_1).f1.f3) ((rd_T38 l1 x10_1).f1.f4) ((rd_T38 l1 x10_1).f1.f5) ((rd_T38 l1 x10_1).f2) ((rd_T38 l1 x10_1).f3.f0) ((rd_T38 l1 x10_1).f3.f1) ((rd_T38 l1 x10_1).f3.f2) ((rd_T38 l1 x10_1).f3.f3) ((rd_T38 l1 x10_1).f3.f4) ((rd_T38 l1 x10_1).f3.f5)) else (batch_Sieve.j1 k1 x5_1 l1 (l1.length : Int) x10_1 false l0_0 l0_1 a0_2 a0_3 a0_4 a0_5 ((rd_T38 l1 x10_1).f0) ((rd_T38 l1 x10_1).f1.f0) ((rd_T38 l1 x10_1).f1.f1) ((rd_T38 l1 x10_1).f1.f2) ((rd_T38 l1 x10_1).f1.f3) ((rd_T38 l1 x10_1).f1.f4) ((rd_T38 l1 x10_1).f1.f5) ((rd_T38 l1 x10_1).f2) ((rd_T38 l1 x10_1).f3.f0) ((rd_T38 l1 x10_1).f3.f1) ((rd_T38 l1 x10_1).f3.f2) ((rd_T38 l1 x10_1).f3.f3) ((rd_T38 l1 x10_1).f3.f4) ((rd_T38 l1 x10_1).f3.f5)))) else (batch_Sieve.j1 k1 x5_1 l1 (l1.length : Int) x10_1 true l0_0 l0_1 a0_2 a0_3 a0_4 a0_5 ((rd_T38 l1 x10_1).f0) ((rd_T38 l1 x10_1).f1.f0) ((rd_T38 l1 x10_1).f1.f1) ((rd_T38 l1 x10_1).f1.f2) ((rd_T38 l1 x10_1).f1.f3) ((rd_T38 l1 x10_1).f1.f4) ((rd_T38 l1 x10_1).f1.f5) ((rd_T38 l1 x10_1).f2) ((rd_T38 l1 x10_1).f3.f0) ((rd_T38 l1 x10_1).f3.f1) ((rd_T38 l1 x10_1).f3.f2) ((rd_T38 l1 x10_1).f3.f3) ((rd_T38 l1 x10_1).f3.f4) ((rd_T38 l1 x10_1).f3.f5))) = some r := H
              have A11 := Aside0.mk A110
              clear A110
              by_cases c12 : t279 = true
              · subst c12
                have H1 : (if ((rd_T38 l1 x10_1).f0) = 1 then (if a0_3 = true then (batch_Sieve.j1 k1 x5_1 l1 (l1.length : Int) x10_1 true l0_0 l0_1 a0_2 a0_3 a0_4 a0_5 ((rd_T38 l1 x10_1).f0) ((rd_T38 l1 x10_1).f1.f0) ((rd_T38 l1 x10_1).f1.f1) ((rd_T38 l1 x10_1).f1.f2) ((rd_T38 l1 x10_1).f1.f3) ((rd_T38 l1 x10_1).f1.f4) ((rd_T38 l1 x10_1).f1.f5) ((rd_T38 l1 x10_1).f2) ((rd_T38 l1 x10_1).f3.f0) ((rd_T38 l1 x10_1).f3.f1) ((rd_T38 l1 x10_1).f3.f2) ((rd_T38 l1 x10_1).f3.f3) ((rd_T38 l1 x10_1).f3.f4) ((rd_T38 l1 x10_1).f3.f5)) else (if ((rd_T38 l1 x10_1).f0) = 2 then (batch_Sieve.j1 k1 x5_1 l1 (l1.length : Int) x10_1 a0_4 l0_0 l0_1 a0_2 a0_3 a0_4 a0_5 ((rd_T38 l1 x10_1).f0) ((rd_T38 l1 x10_1).f1.f0) ((rd_T38 l1 x10_1).f1.f1) ((rd_T38 l1 x10_1).f1.f2) ((rd_T38 l1 x10_1).f1.f3) ((rd_T38 l1 x10_1).f1.f4) ((rd_T38 l1 x10_1).f1.f5) ((rd_T38 l1 x10_1).f2) ((rd_T38 l1 x10_1).f3.f0) ((rd_T38 l1 x10_1).f3.f1) ((rd_T38 l1 x10_1).f3.f2) ((rd_T38 l1 x10_1).f3.f3) ((rd_T38 l1 x10_1).f3.f4) ((rd_T38 l1 x10_1).f3.f5)) else (batch_Sieve.j1 k1 x5_1 l1 (l1.length : Int) x10_1 false l0_0 l0_1 a0_2 a0_3 a0_4 a0_5 ((rd_T38 l1 x10_1).f0) ((rd_T38 l1 x10_1).f1.f0) ((rd_T38 l1 x10_1).f1.f1) ((rd_T38 l1 x10_1).f1.f2) ((rd_T38 l1 x10_1).f1.f3) ((rd_T38 l1 x10_1).f1.f4) ((rd_T38 l1 x10_1).f1.f5) ((rd_T38 l1 x10_1).f2) ((rd_T38 l1 x10_1).f3.f0) ((rd_T38 l1 x10_1).f3.f1) ((rd_T38 l1 x10_1).f3.f2) ((rd_T38 l1 x10_1).f3.f3) ((rd_T38 l1 x10_1).f3.f4) ((rd_T38 l1 x10_1).f3.f5)))) else (if ((rd_T38 l1 x10_1).f0) = 2 then (batch_Sieve.j1 k1 x5_1 l1 (l1.length : Int) x10_1 a0_4 l0_0 l0_1 a0_2 a0_3 a0_4 a0_5 ((rd_T38 l1 x10_1).f0) ((rd_T38 l1 x10_1).f1.f0) ((rd_T38 l1 x10_1).f1.f1) ((rd_T38 l1 x10_1).f1.f2) ((rd_T38 l1 x10_1).f1.f3) ((rd_T38 l1 x10_1).f1.f4) ((rd_T38 l1 x10_1).f1.f5) ((rd_T38 l1 x10_1).f2) ((rd_T38 l1 x10_1).f3.f0) ((rd_T38 l1 x10_1).f3.f1) ((rd_T38 l1 x10_1).f3.f2) ((rd_T38 l1 x10_1).f3.f3) ((rd_T38 l1 x10_1).f3.f4) ((rd_T38 l1 x10_1).f3.f5)) else (batch_Sieve.j1 k1 x5_1 l1 (l1.length : Int) x10_1 false l0_0 l0_1 a0_2 a0_3 a0_4 a0_5 ((rd_T38 l1 x10_1).f0) ((rd_T38 l1 x10_1).f1.f0) ((rd_T38 l1 x10_1).f1.f1) ((rd_T38 l1 x10_1).f1.f2) ((rd_T38 l1 x10_1).f1.f3) ((rd_T38 l1 x10_1).f1.f4) ((rd_T38 l1 x10_1).f1.f5) ((rd_T38 l1 x10_1).f2) ((rd_T38 l1 x10_1).f3.f0) ((rd_T38 l1 x10_1).f3.f1) ((rd_T38 l1 x10_1).f3.f2) ((rd_T38 l1 x10_1).f3.f3) ((rd_T38 l1 x10_1).f3.f4) ((rd_T38 l1 x10_1).f3.f5)))) = some r := by rw [if_pos rfl] at H; exact H
                clear H
                have H := H1
                clear H1
                by_cases c13 : ((rd_T38 l1 x10_1).f0) = 1
                · rw [if_pos c13] at H
                  have c13b0 : (((rd_T38 l1 x10_1).f0) == 1) = true := beq_iff_eq.mpr c13
                  have c13b1 : (((rd_T38 l1 x10_1).f0) != 1) = false := bne_eq_false_iff_eq.mpr c13
                  clear c13
                  (first | rw [c13b0] | (simp only [i64_w, i32_w]; rw [c13b0]) | skip)
                  by_cases c14 : a0_3 = true
                  · subst c14
                    have H1 : (batch_Sieve.j1 k1 x5_1 l1 (l1.length : Int) x10_1 true l0_0 l0_1 a0_2 true a0_4 a0_5 ((rd_T38 l1 x10_1).f0) ((rd_T38 l1 x10_1).f1.f0) ((rd_T38 l1 x10_1).f1.f1) ((rd_T38 l1 x10_1).f1.f2) ((rd_T38 l1 x10_1).f1.f3) ((rd_T38 l1 x10_1).f1.f4) ((rd_T38 l1 x10_1).f1.f5) ((rd_T38 l1 x10_1).f2) ((rd_T38 l1 x10_1).f3.f0) ((rd_T38 l1 x10_1).f3.f1) ((rd_T38 l1 x10_1).f3.f2) ((rd_T38 l1 x10_1).f3.f3) ((rd_T38 l1 x10_1).f3.f4) ((rd_T38 l1 x10_1).f3.f5)) = some r := by rw [if_pos rfl] at H; exact H
                    clear H
                    have H := H1
                    clear H1
                    have H' := Aside0.mk H
                    clear H
                    have hnb15 := NB278_276.out
                    have hnc15 := NB276_278.out
                    have hcz16_0 : w8.cell? ⟨gb278, 0, none⟩ = some (.int .i64 0) := (blk_cell BK278.out 0).trans rfl
                    have hcz16_1 : w8.cell? ⟨gb278, 1, none⟩ = some (.slice none 0 0) := (blk_cell BK278.out 1).trans rfl
                    have hcz16_2 : w8.cell? ⟨gb278, 2, none⟩ = some (.slice none 0 0) := (blk_cell BK278.out 2).trans rfl
                    have hcz16_3 : w8.cell? ⟨gb278, 3, none⟩ = some (.int .i64 0) := (blk_cell BK278.out 3).trans rfl
                    have hcz16_4 : w8.cell? ⟨gb278, 4, none⟩ = some (.int .i64 0) := (blk_cell BK278.out 4).trans rfl
                    have hcz16_5 : w8.cell? ⟨gb278, 5, none⟩ = some (.int .i64 0) := (blk_cell BK278.out 5).trans rfl
                    have hcz16_6 : w8.cell? ⟨gb278, 6, none⟩ = some (.int .i64 0) := (blk_cell BK278.out 6).trans rfl
                    have hcz16_7 : w8.cell? ⟨gb278, 7, none⟩ = some (.bool false) := (blk_cell BK278.out 7).trans rfl
                    have hcz16_8 : w8.cell? ⟨gb278, 8, none⟩ = some (.slice none 0 0) := (blk_cell BK278.out 8).trans rfl
                    have hcz16_9 : w8.cell? ⟨gb278, 9, none⟩ = some (.slice none 0 0) := (blk_cell BK278.out 9).trans rfl
                    have hcz16_10 : w8.cell? ⟨gb278, 10, none⟩ = some (.int .i64 0) := (blk_cell BK278.out 10).trans rfl
                    have hcz16_11 : w8.cell? ⟨gb278, 11, none⟩ = some (.int .i64 0) := (blk_cell BK278.out 11).trans rfl
                    have hcz16_12 : w8.cell? ⟨gb278, 12, none⟩ = some (.int .i64 0) := (blk_cell BK278.out 12).trans rfl
                    have hcz16_13 : w8.cell? ⟨gb278, 13, none⟩ = some (.int .i64 0) := (blk_cell BK278.out 13).trans rfl
                    have hfz16_0 := blk_frozen BK278.out 0
                    have hfz16_1 := blk_frozen BK278.out 1
                    have hfz16_2 := blk_frozen BK278.out 2
                    have hfz16_3 := blk_frozen BK278.out 3
                    have hfz16_4 := blk_frozen BK278.out 4
                    have hfz16_5 := blk_frozen BK278.out 5
                    have hfz16_6 := blk_frozen BK278.out 6
                    have hfz16_7 := blk_frozen BK278.out 7
                    have hfz16_8 := blk_frozen BK278.out 8
                    have hfz16_9 := blk_frozen BK278.out 9
                    have hfz16_10 := blk_frozen BK278.out 10
                    have hfz16_11 := blk_frozen BK278.out 11
                    have hfz16_12 := blk_frozen BK278.out 12
                    have hfz16_13 := blk_frozen BK278.out 13
                    have hcz17_0 : w8.cell? ⟨gb276, 0, none⟩ = some (.slice A0_0 l0_0.length c0_0) := (blk_cell BK276.out 0).trans rfl
                    have hcz17_1 : w8.cell? ⟨gb276, 1, none⟩ = some (.slice A0_1 l0_1.length c0_1) := (blk_cell BK276.out 1).trans rfl
                    have hcz17_2 : w8.cell? ⟨gb276, 2, none⟩ = some (.int .i64 a0_2) := (blk_cell BK276.out 2).trans rfl
                    have hcz17_3 : w8.cell? ⟨gb276, 3, none⟩ = some (.bool true) := (blk_cell BK276.out 3).trans rfl
                    have hcz17_4 : w8.cell? ⟨gb276, 4, none⟩ = some (.bool a0_4) := (blk_cell BK276.out 4).trans rfl
                    have hcz17_5 : w8.cell? ⟨gb276, 5, none⟩ = some (.bool a0_5) := (blk_cell BK276.out 5).trans rfl
                    have hfz17_0 := blk_frozen BK276.out 0
                    have hfz17_1 := blk_frozen BK276.out 1
                    have hfz17_2 := blk_frozen BK276.out 2
                    have hfz17_3 := blk_frozen BK276.out 3
                    have hfz17_4 := blk_frozen BK276.out 4
                    have hfz17_5 := blk_frozen BK276.out 5
                    go_wp2_with (first | ((with_reducible refine gate_callee (f := 24) rfl ?_); refine goesL_ (some 21) rfl rfl Try.func24 (by kernel_rfl) rfl #[.slice A277_1 ((rd_T38 l1 x10_1).f1.f0).length c277_1, .slice A0_0 l0_0.length c0_0, .slice A0_1 l0_1.length c0_1] rfl (by (try simp only [List.map_toArray, List.map_cons, List.map_nil]); first | done | rfl | (simp only [List.length_drop, List.length_take]; rfl)) ?_; (with_reducible refine (octets_In.calls k1 _ _ ((rd_T38 l1 x10_1).f1.f0) _ _ l0_0 _ _ l0_1 true _ ?side1 ?side2 ?side3 ?side4 ?side5 ?side6 A11.out).mono ?_); (case side1 => exact Kd.C_below HR277_1.out (by repeat (first | (with_reducible first | exact HB.out | apply below_alloc | apply pw_below_drewN | apply below_drew1 | refine below_set ?_ GE276.out | refine below_set ?_ GE278.out) | exact HB.out | exact Below.refl _ _))); (case side2 => exact HC277_1.out); (case side3 => exact Kd.C_below HR0_0.out (by repeat (first | (with_reducible first | exact HB.out | apply below_alloc | apply pw_below_drewN | apply below_drew1 | refine below_set ?_ GE276.out | refine below_set ?_ GE278.out) | exact HB.out | exact Below.refl _ _))); (case side4 => exact HC0_0.out); (case side5 => exact Kd.C_below HR0_1.out (by repeat (first | (with_reducible first | exact HB.out | apply below_alloc | apply pw_below_drewN | apply below_drew1 | refine below_set ?_ GE276.out | refine below_set ?_ GE278.out) | exact HB.out | exact Below.refl _ _))); (case side6 => exact HC0_1.out); rintro e w' ⟨rfl, ⟨nd, rfl⟩⟩; refine ⟨_, rfl, ?_⟩))
                    go_meet
                    case rel => exact ⟨_, (true), (by first | rfl | (simp; done) | (simp [*]; done)), H', ⟨by have := HK1.out; first | omega | exact Nat.le_refl _⟩, ⟨by (with_reducible repeat (first | apply Kd.S_alloc | apply Kd.S_drewN | apply Kd.S_drew)); exact Kd.S_mono (Kd.S_far (p := ⟨gb278, 13, none⟩) (Kd.S_far (p := ⟨gb278, 12, none⟩) (Kd.S_far (p := ⟨gb278, 11, none⟩) (Kd.S_far (p := ⟨gb278, 10, none⟩) (Kd.S_far (p := ⟨gb278, 9, none⟩) (Kd.S_far (p := ⟨gb278, 8, none⟩) (Kd.S_far (p := ⟨gb278, 7, none⟩) (Kd.S_far (p := ⟨gb278, 6, none⟩) (Kd.S_far (p := ⟨gb278, 5, none⟩) (Kd.S_far (p := ⟨gb278, 4, none⟩) (Kd.S_far (p := ⟨gb278, 3, none⟩) (Kd.S_far (p := ⟨gb278, 2, none⟩) (Kd.S_far (p := ⟨gb278, 1, none⟩) (Kd.S_far (p := ⟨gb278, 0, none⟩) (Kd.S_mono HO_5.out (fun k_ hk => (⟨hk, hk.2⟩ : _ ∧ k_ ≠ gb278))) (fun _ hk => hk.2) (.int .i64 ((rd_T38 l1 x10_1).f0))) (fun _ hk => hk.2) (.slice A277_1 ((rd_T38 l1 x10_1).f1.f0).length c277_1)) (fun _ hk => hk.2) (.slice A277_2 ((rd_T38 l1 x10_1).f1.f1).length c277_2)) (fun _ hk => hk.2) (.int .i64 ((rd_T38 l1 x10_1).f1.f2))) (fun _ hk => hk.2) (.int .i64 ((rd_T38 l1 x10_1).f1.f3))) (fun _ hk => hk.2) (.int .i64 ((rd_T38 l1 x10_1).f1.f4))) (fun _ hk => hk.2) (.int .i64 ((rd_T38 l1 x10_1).f1.f5))) (fun _ hk => hk.2) (.bool ((rd_T38 l1 x10_1).f2))) (fun _ hk => hk.2) (.slice A277_8 ((rd_T38 l1 x10_1).f3.f0).length c277_8)) (fun _ hk => hk.2) (.slice A277_9 ((rd_T38 l1 x10_1).f3.f1).length c277_9)) (fun _ hk => hk.2) (.int .i64 ((rd_T38 l1 x10_1).f3.f2))) (fun _ hk => hk.2) (.int .i64 ((rd_T38 l1 x10_1).f3.f3))) (fun _ hk => hk.2) (.int .i64 ((rd_T38 l1 x10_1).f3.f4))) (fun _ hk => hk.2) (.int .i64 ((rd_T38 l1 x10_1).f3.f5))) (fun _ hk => hk.1.2)⟩, ⟨by (with_reducible repeat (first | refine blk_drewN ?_ _ | refine blk_drew ?_ | refine blk_alloc ?_ _)); refine blk_far ?_ NB276_278.out _; (with_reducible repeat (first | refine blk_drewN ?_ _ | refine blk_drew ?_ | refine blk_alloc ?_ _)); refine blk_far ?_ NB276_278.out _; (with_reducible repeat (first | refine blk_drewN ?_ _ | refine blk_drew ?_ | refine blk_alloc ?_ _)); refine blk_far ?_ NB276_278.out _; (with_reducible repeat (first | refine blk_drewN ?_ _ | refine blk_drew ?_ | refine blk_alloc ?_ _)); refine blk_far ?_ NB276_278.out _; (with_reducible repeat (first | refine blk_drewN ?_ _ | refine blk_drew ?_ | refine blk_alloc ?_ _)); refine blk_far ?_ NB276_278.out _; (with_reducible repeat (first | refine blk_drewN ?_ _ | refine blk_drew ?_ | refine blk_alloc ?_ _)); refine blk_far ?_ NB276_278.out _; (with_reducible repeat (first | refine blk_drewN ?_ _ | refine blk_drew ?_ | refine blk_alloc ?_ _)); refine blk_far ?_ NB276_278.out _; (with_reducible repeat (first | refine blk_drewN ?_ _ | refine blk_drew ?_ | refine blk_alloc ?_ _)); refine blk_far ?_ NB276_278.out _; (with_reducible repeat (first | refine blk_drewN ?_ _ | refine blk_drew ?_ | refine blk_alloc ?_ _)); refine blk_far ?_ NB276_278.out _; (with_reducible repeat (first | refine blk_drewN ?_ _ | refine blk_drew ?_ | refine blk_alloc ?_ _)); refine blk_far ?_ NB276_278.out _; (with_reducible repeat (first | refine blk_drewN ?_ _ | refine blk_drew ?_ | refine blk_alloc ?_ _)); refine blk_far ?_ NB276_278.out _; (with_reducible repeat (first | refine blk_drewN ?_ _ | refine blk_drew ?_ | refine blk_alloc ?_ _)); refine blk_far ?_ NB276_278.out _; (with_reducible repeat (first | refine blk_drewN ?_ _ | refine blk_drew ?_ | refine blk_alloc ?_ _)); refine blk_far ?_ NB276_278.out _; (with_reducible repeat (first | refine blk_drewN ?_ _ | refine blk_drew ?_ | refine blk_alloc ?_ _)); refine blk_far ?_ NB276_278.out _; (with_reducible repeat (first | refine blk_drewN ?_ _ | refine blk_drew ?_ | refine blk_alloc ?_ _)); exact BK276.out⟩, ⟨by (with_reducible repeat (first | refine blk_drewN ?_ _ | refine blk_drew ?_ | refine blk_alloc ?_ _)); refine blk_put (cs := #[.int .i64 ((rd_T38 l1 x10_1).f0), .slice A277_1 ((rd_T38 l1 x10_1).f1.f0).length c277_1, .slice A277_2 ((rd_T38 l1 x10_1).f1.f1).length c277_2, .int .i64 ((rd_T38 l1 x10_1).f1.f2), .int .i64 ((rd_T38 l1 x10_1).f1.f3), .int .i64 ((rd_T38 l1 x10_1).f1.f4), .int .i64 ((rd_T38 l1 x10_1).f1.f5), .bool ((rd_T38 l1 x10_1).f2), .slice A277_8 ((rd_T38 l1 x10_1).f3.f0).length c277_8, .slice A277_9 ((rd_T38 l1 x10_1).f3.f1).length c277_9, .int .i64 ((rd_T38 l1 x10_1).f3.f2), .int .i64 ((rd_T38 l1 x10_1).f3.f3), .int .i64 ((rd_T38 l1 x10_1).f3.f4), .int .i64 0]) ?_ 13 _ rfl; (with_reducible repeat (first | refine blk_drewN ?_ _ | refine blk_drew ?_ | refine blk_alloc ?_ _)); refine blk_put (cs := #[.int .i64 ((rd_T38 l1 x10_1).f0), .slice A277_1 ((rd_T38 l1 x10_1).f1.f0).length c277_1, .slice A277_2 ((rd_T38 l1 x10_1).f1.f1).length c277_2, .int .i64 ((rd_T38 l1 x10_1).f1.f2), .int .i64 ((rd_T38 l1 x10_1).f1.f3), .int .i64 ((rd_T38 l1 x10_1).f1.f4), .int .i64 ((rd_T38 l1 x10_1).f1.f5), .bool ((rd_T38 l1 x10_1).f2), .slice A277_8 ((rd_T38 l1 x10_1).f3.f0).length c277_8, .slice A277_9 ((rd_T38 l1 x10_1).f3.f1).length c277_9, .int .i64 ((rd_T38 l1 x10_1).f3.f2), .int .i64 ((rd_T38 l1 x10_1).f3.f3), .int .i64 0, .int .i64 0]) ?_ 12 _ rfl; (with_reducible repeat (first | refine blk_drewN ?_ _ | refine blk_drew ?_ | refine blk_alloc ?_ _)); refine blk_put (cs := #[.int .i64 ((rd_T38 l1 x10_1).f0), .slice A277_1 ((rd_T38 l1 x10_1).f1.f0).length c277_1, .slice A277_2 ((rd_T38 l1 x10_1).f1.f1).length c277_2, .int .i64 ((rd_T38 l1 x10_1).f1.f2), .int .i64 ((rd_T38 l1 x10_1).f1.f3), .int .i64 ((rd_T38 l1 x10_1).f1.f4), .int .i64 ((rd_T38 l1 x10_1).f1.f5), .bool ((rd_T38 l1 x10_1).f2), .slice A277_8 ((rd_T38 l1 x10_1).f3.f0).length c277_8, .slice A277_9 ((rd_T38 l1 x10_1).f3.f1).length c277_9, .int .i64 ((rd_T38 l1 x10_1).f3.f2), .int .i64 0, .int .i64 0, .int .i64 0]) ?_ 11 _ rfl; (with_reducible repeat (first | refine blk_drewN ?_ _ | refine blk_drew ?_ | refine blk_alloc ?_ _)); refine blk_put (cs := #[.int .i64 ((rd_T38 l1 x10_1).f0), .slice A277_1 ((rd_T38 l1 x10_1).f1.f0).length c277_1, .slice A277_2 ((rd_T38 l1 x10_1).f1.f1).length c277_2, .int .i64 ((rd_T38 l1 x10_1).f1.f2), .int .i64 ((rd_T38 l1 x10_1).f1.f3), .int .i64 ((rd_T38 l1 x10_1).f1.f4), .int .i64 ((rd_T38 l1 x10_1).f1.f5), .bool ((rd_T38 l1 x10_1).f2), .slice A277_8 ((rd_T38 l1 x10_1).f3.f0).length c277_8, .slice A277_9 ((rd_T38 l1 x10_1).f3.f1).length c277_9, .int .i64 0, .int .i64 0, .int .i64 0, .int .i64 0]) ?_ 10 _ rfl; (with_reducible repeat (first | refine blk_drewN ?_ _ | refine blk_drew ?_ | refine blk_alloc ?_ _)); refine blk_put (cs := #[.int .i64 ((rd_T38 l1 x10_1).f0), .slice A277_1 ((rd_T38 l1 x10_1).f1.f0).length c277_1, .slice A277_2 ((rd_T38 l1 x10_1).f1.f1).length c277_2, .int .i64 ((rd_T38 l1 x10_1).f1.f2), .int .i64 ((rd_T38 l1 x10_1).f1.f3), .int .i64 ((rd_T38 l1 x10_1).f1.f4), .int .i64 ((rd_T38 l1 x10_1).f1.f5), .bool ((rd_T38 l1 x10_1).f2), .slice A277_8 ((rd_T38 l1 x10_1).f3.f0).length c277_8, .slice none 0 0, .int .i64 0, .int .i64 0, .int .i64 0, .int .i64 0]) ?_ 9 _ rfl; (with_reducible repeat (first | refine blk_drewN ?_ _ | refine blk_drew ?_ | refine blk_alloc ?_ _)); refine blk_put (cs := #[.int .i64 ((rd_T38 l1 x10_1).f0), .slice A277_1 ((rd_T38 l1 x10_1).f1.f0).length c277_1, .slice A277_2 ((rd_T38 l1 x10_1).f1.f1).length c277_2, .int .i64 ((rd_T38 l1 x10_1).f1.f2), .int .i64 ((rd_T38 l1 x10_1).f1.f3), .int .i64 ((rd_T38 l1 x10_1).f1.f4), .int .i64 ((rd_T38 l1 x10_1).f1.f5), .bool ((rd_T38 l1 x10_1).f2), .slice none 0 0, .slice none 0 0, .int .i64 0, .int .i64 0, .int .i64 0, .int .i64 0]) ?_ 8 _ rfl; (with_reducible repeat (first | refine blk_drewN ?_ _ | refine blk_drew ?_ | refine blk_alloc ?_ _)); refine blk_put (cs := #[.int .i64 ((rd_T38 l1 x10_1).f0), .slice A277_1 ((rd_T38 l1 x10_1).f1.f0).length c277_1, .slice A277_2 ((rd_T38 l1 x10_1).f1.f1).length c277_2, .int .i64 ((rd_T38 l1 x10_1).f1.f2), .int .i64 ((rd_T38 l1 x10_1).f1.f3), .int .i64 ((rd_T38 l1 x10_1).f1.f4), .int .i64 ((rd_T38 l1 x10_1).f1.f5), .bool false, .slice none 0 0, .slice none 0 0, .int .i64 0, .int .i64 0, .int .i64 0, .int .i64 0]) ?_ 7 _ rfl; (with_reducible repeat (first | refine blk_drewN ?_ _ | refine blk_drew ?_ | refine blk_alloc ?_ _)); refine blk_put (cs := #[.int .i64 ((rd_T38 l1 x10_1).f0), .slice A277_1 ((rd_T38 l1 x10_1).f1.f0).length c277_1, .slice A277_2 ((rd_T38 l1 x10_1).f1.f1).length c277_2, .int .i64 ((rd_T38 l1 x10_1).f1.f2), .int .i64 ((rd_T38 l1 x10_1).f1.f3), .int .i64 ((rd_T38 l1 x10_1).f1.f4), .int .i64 0, .bool false, .slice none 0 0, .slice none 0 0, .int .i64 0, .int .i64 0, .int .i64 0, .int .i64 0]) ?_ 6 _ rfl; (with_reducible repeat (first | refine blk_drewN ?_ _ | refine blk_drew ?_ | refine blk_alloc ?_ _)); refine blk_put (cs := #[.int .i64 ((rd_T38 l1 x10_1).f0), .slice A277_1 ((rd_T38 l1 x10_1).f1.f0).length c277_1, .slice A277_2 ((rd_T38 l1 x10_1).f1.f1).length c277_2, .int .i64 ((rd_T38 l1 x10_1).f1.f2), .int .i64 ((rd_T38 l1 x10_1).f1.f3), .int .i64 0, .int .i64 0, .bool false, .slice none 0 0, .slice none 0 0, .int .i64 0, .int .i64 0, .int .i64 0, .int .i64 0]) ?_ 5 _ rfl; (with_reducible repeat (first | refine blk_drewN ?_ _ | refine blk_drew ?_ | refine blk_alloc ?_ _)); refine blk_put (cs := #[.int .i64 ((rd_T38 l1 x10_1).f0), .slice A277_1 ((rd_T38 l1 x10_1).f1.f0).length c277_1, .slice A277_2 ((rd_T38 l1 x10_1).f1.f1).length c277_2, .int .i64 ((rd_T38 l1 x10_1).f1.f2), .int .i64 0, .int .i64 0, .int .i64 0, .bool false, .slice none 0 0, .slice none 0 0, .int .i64 0, .int .i64 0, .int .i64 0, .int .i64 0]) ?_ 4 _ rfl; (with_reducible repeat (first | refine blk_drewN ?_ _ | refine blk_drew ?_ | refine blk_alloc ?_ _)); refine blk_put (cs := #[.int .i64 ((rd_T38 l1 x10_1).f0), .slice A277_1 ((rd_T38 l1 x10_1).f1.f0).length c277_1, .slice A277_2 ((rd_T38 l1 x10_1).f1.f1).length c277_2, .int .i64 0, .int .i64 0, .int .i64 0, .int .i64 0, .bool false, .slice none 0 0, .slice none 0 0, .int .i64 0, .int .i64 0, .int .i64 0, .int .i64 0]) ?_ 3 _ rfl; (with_reducible repeat (first | refine blk_drewN ?_ _ | refine blk_drew ?_ | refine blk_alloc ?_ _)); refine blk_put (cs := #[.int .i64 ((rd_T38 l1 x10_1).f0), .slice A277_1 ((rd_T38 l1 x10_1).f1.f0).length c277_1, .slice none 0 0, .int .i64 0, .int .i64 0, .int .i64 0, .int .i64 0, .bool false, .slice none 0 0, .slice none 0 0, .int .i64 0, .int .i64 0, .int .i64 0, .int .i64 0]) ?_ 2 _ rfl; (with_reducible repeat (first | refine blk_drewN ?_ _ | refine blk_drew ?_ | refine blk_alloc ?_ _)); refine blk_put (cs := #[.int .i64 ((rd_T38 l1 x10_1).f0), .slice none 0 0, .slice none 0 0, .int .i64 0, .int .i64 0, .int .i64 0, .int .i64 0, .bool false, .slice none 0 0, .slice none 0 0, .int .i64 0, .int .i64 0, .int .i64 0, .int .i64 0]) ?_ 1 _ rfl; (with_reducible repeat (first | refine blk_drewN ?_ _ | refine blk_drew ?_ | refine blk_alloc ?_ _)); refine blk_put (cs := #[.int .i64 0, .slice none 0 0, .slice none 0 0, .int .i64 0, .int .i64 0, .int .i64 0, .int .i64 0, .bool false, .slice none 0 0, .slice none 0 0, .int .i64 0, .int .i64 0, .int .i64 0, .int .i64 0]) ?_ 0 _ rfl; (with_reducible repeat (first | refine blk_drewN ?_ _ | refine blk_drew ?_ | refine blk_alloc ?_ _)); exact BK278.out⟩, ⟨by repeat (first | (with_reducible first | exact HB.out | apply below_alloc | apply pw_below_drewN | apply below_drew1 | refine below_set ?_ GE276.out | refine below_set ?_ GE278.out) | exact HB.out | exact Below.refl _ _)⟩⟩
                  · replace c14 := Bool.eq_false_iff.mpr c14
                    subst c14
                    have H1 : (if ((rd_T38 l1 x10_1).f0) = 2 then (batch_Sieve.j1 k1 x5_1 l1 (l1.length : Int) x10_1 a0_4 l0_0 l0_1 a0_2 false a0_4 a0_5 ((rd_T38 l1 x10_1).f0) ((rd_T38 l1 x10_1).f1.f0) ((rd_T38 l1 x10_1).f1.f1) ((rd_T38 l1 x10_1).f1.f2) ((rd_T38 l1 x10_1).f1.f3) ((rd_T38 l1 x10_1).f1.f4) ((rd_T38 l1 x10_1).f1.f5) ((rd_T38 l1 x10_1).f2) ((rd_T38 l1 x10_1).f3.f0) ((rd_T38 l1 x10_1).f3.f1) ((rd_T38 l1 x10_1).f3.f2) ((rd_T38 l1 x10_1).f3.f3) ((rd_T38 l1 x10_1).f3.f4) ((rd_T38 l1 x10_1).f3.f5)) else (batch_Sieve.j1 k1 x5_1 l1 (l1.length : Int) x10_1 false l0_0 l0_1 a0_2 false a0_4 a0_5 ((rd_T38 l1 x10_1).f0) ((rd_T38 l1 x10_1).f1.f0) ((rd_T38 l1 x10_1).f1.f1) ((rd_T38 l1 x10_1).f1.f2) ((rd_T38 l1 x10_1).f1.f3) ((rd_T38 l1 x10_1).f1.f4) ((rd_T38 l1 x10_1).f1.f5) ((rd_T38 l1 x10_1).f2) ((rd_T38 l1 x10_1).f3.f0) ((rd_T38 l1 x10_1).f3.f1) ((rd_T38 l1 x10_1).f3.f2) ((rd_T38 l1 x10_1).f3.f3) ((rd_T38 l1 x10_1).f3.f4) ((rd_T38 l1 x10_1).f3.f5))) = some r := by rw [if_neg (show ¬ (false = true) by decide)] at H; exact H
                    clear H
                    have H := H1
                    clear H1
                    by_cases c18 : ((rd_T38 l1 x10_1).f0) = 2
                    · rw [if_pos c18] at H
                      have c18b0 : (((rd_T38 l1 x10_1).f0) == 2) = true := beq_iff_eq.mpr c18
                      have c18b1 : (((rd_T38 l1 x10_1).f0) != 2) = false := bne_eq_false_iff_eq.mpr c18
                      clear c18
                      have H' := Aside0.mk H
                      clear H
                      have hnb19 := NB278_276.out
                      have hnc19 := NB276_278.out
                      have hcz20_0 : w8.cell? ⟨gb278, 0, none⟩ = some (.int .i64 0) := (blk_cell BK278.out 0).trans rfl
                      have hcz20_1 : w8.cell? ⟨gb278, 1, none⟩ = some (.slice none 0 0) := (blk_cell BK278.out 1).trans rfl
                      have hcz20_2 : w8.cell? ⟨gb278, 2, none⟩ = some (.slice none 0 0) := (blk_cell BK278.out 2).trans rfl
                      have hcz20_3 : w8.cell? ⟨gb278, 3, none⟩ = some (.int .i64 0) := (blk_cell BK278.out 3).trans rfl
                      have hcz20_4 : w8.cell? ⟨gb278, 4, none⟩ = some (.int .i64 0) := (blk_cell BK278.out 4).trans rfl
                      have hcz20_5 : w8.cell? ⟨gb278, 5, none⟩ = some (.int .i64 0) := (blk_cell BK278.out 5).trans rfl
                      have hcz20_6 : w8.cell? ⟨gb278, 6, none⟩ = some (.int .i64 0) := (blk_cell BK278.out 6).trans rfl
                      have hcz20_7 : w8.cell? ⟨gb278, 7, none⟩ = some (.bool false) := (blk_cell BK278.out 7).trans rfl
                      have hcz20_8 : w8.cell? ⟨gb278, 8, none⟩ = some (.slice none 0 0) := (blk_cell BK278.out 8).trans rfl
                      have hcz20_9 : w8.cell? ⟨gb278, 9, none⟩ = some (.slice none 0 0) := (blk_cell BK278.out 9).trans rfl
                      have hcz20_10 : w8.cell? ⟨gb278, 10, none⟩ = some (.int .i64 0) := (blk_cell BK278.out 10).trans rfl
                      have hcz20_11 : w8.cell? ⟨gb278, 11, none⟩ = some (.int .i64 0) := (blk_cell BK278.out 11).trans rfl
                      have hcz20_12 : w8.cell? ⟨gb278, 12, none⟩ = some (.int .i64 0) := (blk_cell BK278.out 12).trans rfl
                      have hcz20_13 : w8.cell? ⟨gb278, 13, none⟩ = some (.int .i64 0) := (blk_cell BK278.out 13).trans rfl
                      have hfz20_0 := blk_frozen BK278.out 0
                      have hfz20_1 := blk_frozen BK278.out 1
                      have hfz20_2 := blk_frozen BK278.out 2
                      have hfz20_3 := blk_frozen BK278.out 3
                      have hfz20_4 := blk_frozen BK278.out 4
                      have hfz20_5 := blk_frozen BK278.out 5
                      have hfz20_6 := blk_frozen BK278.out 6
                      have hfz20_7 := blk_frozen BK278.out 7
                      have hfz20_8 := blk_frozen BK278.out 8
                      have hfz20_9 := blk_frozen BK278.out 9
                      have hfz20_10 := blk_frozen BK278.out 10
                      have hfz20_11 := blk_frozen BK278.out 11
                      have hfz20_12 := blk_frozen BK278.out 12
                      have hfz20_13 := blk_frozen BK278.out 13
                      have hcz21_0 : w8.cell? ⟨gb276, 0, none⟩ = some (.slice A0_0 l0_0.length c0_0) := (blk_cell BK276.out 0).trans rfl
                      have hcz21_1 : w8.cell? ⟨gb276, 1, none⟩ = some (.slice A0_1 l0_1.length c0_1) := (blk_cell BK276.out 1).trans rfl
                      have hcz21_2 : w8.cell? ⟨gb276, 2, none⟩ = some (.int .i64 a0_2) := (blk_cell BK276.out 2).trans rfl
                      have hcz21_3 : w8.cell? ⟨gb276, 3, none⟩ = some (.bool false) := (blk_cell BK276.out 3).trans rfl
                      have hcz21_4 : w8.cell? ⟨gb276, 4, none⟩ = some (.bool a0_4) := (blk_cell BK276.out 4).trans rfl
                      have hcz21_5 : w8.cell? ⟨gb276, 5, none⟩ = some (.bool a0_5) := (blk_cell BK276.out 5).trans rfl
                      have hfz21_0 := blk_frozen BK276.out 0
                      have hfz21_1 := blk_frozen BK276.out 1
                      have hfz21_2 := blk_frozen BK276.out 2
                      have hfz21_3 := blk_frozen BK276.out 3
                      have hfz21_4 := blk_frozen BK276.out 4
                      have hfz21_5 := blk_frozen BK276.out 5
                      go_wp2_with (first | ((with_reducible refine gate_callee (f := 24) rfl ?_); refine goesL_ (some 21) rfl rfl Try.func24 (by kernel_rfl) rfl #[.slice A277_1 ((rd_T38 l1 x10_1).f1.f0).length c277_1, .slice A0_0 l0_0.length c0_0, .slice A0_1 l0_1.length c0_1] rfl (by (try simp only [List.map_toArray, List.map_cons, List.map_nil]); first | done | rfl | (simp only [List.length_drop, List.length_take]; rfl)) ?_; (with_reducible refine (octets_In.calls k1 _ _ ((rd_T38 l1 x10_1).f1.f0) _ _ l0_0 _ _ l0_1 true _ ?side1 ?side2 ?side3 ?side4 ?side5 ?side6 A11.out).mono ?_); (case side1 => exact Kd.C_below HR277_1.out (by repeat (first | (with_reducible first | exact HB.out | apply below_alloc | apply pw_below_drewN | apply below_drew1 | refine below_set ?_ GE276.out | refine below_set ?_ GE278.out) | exact HB.out | exact Below.refl _ _))); (case side2 => exact HC277_1.out); (case side3 => exact Kd.C_below HR0_0.out (by repeat (first | (with_reducible first | exact HB.out | apply below_alloc | apply pw_below_drewN | apply below_drew1 | refine below_set ?_ GE276.out | refine below_set ?_ GE278.out) | exact HB.out | exact Below.refl _ _))); (case side4 => exact HC0_0.out); (case side5 => exact Kd.C_below HR0_1.out (by repeat (first | (with_reducible first | exact HB.out | apply below_alloc | apply pw_below_drewN | apply below_drew1 | refine below_set ?_ GE276.out | refine below_set ?_ GE278.out) | exact HB.out | exact Below.refl _ _))); (case side6 => exact HC0_1.out); rintro e w' ⟨rfl, ⟨nd, rfl⟩⟩; refine ⟨_, rfl, ?_⟩))
                      go_meet
                      case rel => exact ⟨_, (a0_4), (by first | rfl | (simp; done) | (simp [*]; done)), H', ⟨by have := HK1.out; first | omega | exact Nat.le_refl _⟩, ⟨by (with_reducible repeat (first | apply Kd.S_alloc | apply Kd.S_drewN | apply Kd.S_drew)); exact Kd.S_mono (Kd.S_far (p := ⟨gb278, 13, none⟩) (Kd.S_far (p := ⟨gb278, 12, none⟩) (Kd.S_far (p := ⟨gb278, 11, none⟩) (Kd.S_far (p := ⟨gb278, 10, none⟩) (Kd.S_far (p := ⟨gb278, 9, none⟩) (Kd.S_far (p := ⟨gb278, 8, none⟩) (Kd.S_far (p := ⟨gb278, 7, none⟩) (Kd.S_far (p := ⟨gb278, 6, none⟩) (Kd.S_far (p := ⟨gb278, 5, none⟩) (Kd.S_far (p := ⟨gb278, 4, none⟩) (Kd.S_far (p := ⟨gb278, 3, none⟩) (Kd.S_far (p := ⟨gb278, 2, none⟩) (Kd.S_far (p := ⟨gb278, 1, none⟩) (Kd.S_far (p := ⟨gb278, 0, none⟩) (Kd.S_mono HO_5.out (fun k_ hk => (⟨hk, hk.2⟩ : _ ∧ k_ ≠ gb278))) (fun _ hk => hk.2) (.int .i64 ((rd_T38 l1 x10_1).f0))) (fun _ hk => hk.2) (.slice A277_1 ((rd_T38 l1 x10_1).f1.f0).length c277_1)) (fun _ hk => hk.2) (.slice A277_2 ((rd_T38 l1 x10_1).f1.f1).length c277_2)) (fun _ hk => hk.2) (.int .i64 ((rd_T38 l1 x10_1).f1.f2))) (fun _ hk => hk.2) (.int .i64 ((rd_T38 l1 x10_1).f1.f3))) (fun _ hk => hk.2) (.int .i64 ((rd_T38 l1 x10_1).f1.f4))) (fun _ hk => hk.2) (.int .i64 ((rd_T38 l1 x10_1).f1.f5))) (fun _ hk => hk.2) (.bool ((rd_T38 l1 x10_1).f2))) (fun _ hk => hk.2) (.slice A277_8 ((rd_T38 l1 x10_1).f3.f0).length c277_8)) (fun _ hk => hk.2) (.slice A277_9 ((rd_T38 l1 x10_1).f3.f1).length c277_9)) (fun _ hk => hk.2) (.int .i64 ((rd_T38 l1 x10_1).f3.f2))) (fun _ hk => hk.2) (.int .i64 ((rd_T38 l1 x10_1).f3.f3))) (fun _ hk => hk.2) (.int .i64 ((rd_T38 l1 x10_1).f3.f4))) (fun _ hk => hk.2) (.int .i64 ((rd_T38 l1 x10_1).f3.f5))) (fun _ hk => hk.1.2)⟩, ⟨by (with_reducible repeat (first | refine blk_drewN ?_ _ | refine blk_drew ?_ | refine blk_alloc ?_ _)); refine blk_far ?_ NB276_278.out _; (with_reducible repeat (first | refine blk_drewN ?_ _ | refine blk_drew ?_ | refine blk_alloc ?_ _)); refine blk_far ?_ NB276_278.out _; (with_reducible repeat (first | refine blk_drewN ?_ _ | refine blk_drew ?_ | refine blk_alloc ?_ _)); refine blk_far ?_ NB276_278.out _; (with_reducible repeat (first | refine blk_drewN ?_ _ | refine blk_drew ?_ | refine blk_alloc ?_ _)); refine blk_far ?_ NB276_278.out _; (with_reducible repeat (first | refine blk_drewN ?_ _ | refine blk_drew ?_ | refine blk_alloc ?_ _)); refine blk_far ?_ NB276_278.out _; (with_reducible repeat (first | refine blk_drewN ?_ _ | refine blk_drew ?_ | refine blk_alloc ?_ _)); refine blk_far ?_ NB276_278.out _; (with_reducible repeat (first | refine blk_drewN ?_ _ | refine blk_drew ?_ | refine blk_alloc ?_ _)); refine blk_far ?_ NB276_278.out _; (with_reducible repeat (first | refine blk_drewN ?_ _ | refine blk_drew ?_ | refine blk_alloc ?_ _)); refine blk_far ?_ NB276_278.out _; (with_reducible repeat (first | refine blk_drewN ?_ _ | refine blk_drew ?_ | refine blk_alloc ?_ _)); refine blk_far ?_ NB276_278.out _; (with_reducible repeat (first | refine blk_drewN ?_ _ | refine blk_drew ?_ | refine blk_alloc ?_ _)); refine blk_far ?_ NB276_278.out _; (with_reducible repeat (first | refine blk_drewN ?_ _ | refine blk_drew ?_ | refine blk_alloc ?_ _)); refine blk_far ?_ NB276_278.out _; (with_reducible repeat (first | refine blk_drewN ?_ _ | refine blk_drew ?_ | refine blk_alloc ?_ _)); refine blk_far ?_ NB276_278.out _; (with_reducible repeat (first | refine blk_drewN ?_ _ | refine blk_drew ?_ | refine blk_alloc ?_ _)); refine blk_far ?_ NB276_278.out _; (with_reducible repeat (first | refine blk_drewN ?_ _ | refine blk_drew ?_ | refine blk_alloc ?_ _)); refine blk_far ?_ NB276_278.out _; (with_reducible repeat (first | refine blk_drewN ?_ _ | refine blk_drew ?_ | refine blk_alloc ?_ _)); exact BK276.out⟩, ⟨by (with_reducible repeat (first | refine blk_drewN ?_ _ | refine blk_drew ?_ | refine blk_alloc ?_ _)); refine blk_put (cs := #[.int .i64 ((rd_T38 l1 x10_1).f0), .slice A277_1 ((rd_T38 l1 x10_1).f1.f0).length c277_1, .slice A277_2 ((rd_T38 l1 x10_1).f1.f1).length c277_2, .int .i64 ((rd_T38 l1 x10_1).f1.f2), .int .i64 ((rd_T38 l1 x10_1).f1.f3), .int .i64 ((rd_T38 l1 x10_1).f1.f4), .int .i64 ((rd_T38 l1 x10_1).f1.f5), .bool ((rd_T38 l1 x10_1).f2), .slice A277_8 ((rd_T38 l1 x10_1).f3.f0).length c277_8, .slice A277_9 ((rd_T38 l1 x10_1).f3.f1).length c277_9, .int .i64 ((rd_T38 l1 x10_1).f3.f2), .int .i64 ((rd_T38 l1 x10_1).f3.f3), .int .i64 ((rd_T38 l1 x10_1).f3.f4), .int .i64 0]) ?_ 13 _ rfl; (with_reducible repeat (first | refine blk_drewN ?_ _ | refine blk_drew ?_ | refine blk_alloc ?_ _)); refine blk_put (cs := #[.int .i64 ((rd_T38 l1 x10_1).f0), .slice A277_1 ((rd_T38 l1 x10_1).f1.f0).length c277_1, .slice A277_2 ((rd_T38 l1 x10_1).f1.f1).length c277_2, .int .i64 ((rd_T38 l1 x10_1).f1.f2), .int .i64 ((rd_T38 l1 x10_1).f1.f3), .int .i64 ((rd_T38 l1 x10_1).f1.f4), .int .i64 ((rd_T38 l1 x10_1).f1.f5), .bool ((rd_T38 l1 x10_1).f2), .slice A277_8 ((rd_T38 l1 x10_1).f3.f0).length c277_8, .slice A277_9 ((rd_T38 l1 x10_1).f3.f1).length c277_9, .int .i64 ((rd_T38 l1 x10_1).f3.f2), .int .i64 ((rd_T38 l1 x10_1).f3.f3), .int .i64 0, .int .i64 0]) ?_ 12 _ rfl; (with_reducible repeat (first | refine blk_drewN ?_ _ | refine blk_drew ?_ | refine blk_alloc ?_ _)); refine blk_put (cs := #[.int .i64 ((rd_T38 l1 x10_1).f0), .slice A277_1 ((rd_T38 l1 x10_1).f1.f0).length c277_1, .slice A277_2 ((rd_T38 l1 x10_1).f1.f1).length c277_2, .int .i64 ((rd_T38 l1 x10_1).f1.f2), .int .i64 ((rd_T38 l1 x10_1).f1.f3), .int .i64 ((rd_T38 l1 x10_1).f1.f4), .int .i64 ((rd_T38 l1 x10_1).f1.f5), .bool ((rd_T38 l1 x10_1).f2), .slice A277_8 ((rd_T38 l1 x10_1).f3.f0).length c277_8, .slice A277_9 ((rd_T38 l1 x10_1).f3.f1).length c277_9, .int .i64 ((rd_T38 l1 x10_1).f3.f2), .int .i64 0, .int .i64 0, .int .i64 0]) ?_ 11 _ rfl; (with_reducible repeat (first | refine blk_drewN ?_ _ | refine blk_drew ?_ | refine blk_alloc ?_ _)); refine blk_put (cs := #[.int .i64 ((rd_T38 l1 x10_1).f0), .slice A277_1 ((rd_T38 l1 x10_1).f1.f0).length c277_1, .slice A277_2 ((rd_T38 l1 x10_1).f1.f1).length c277_2, .int .i64 ((rd_T38 l1 x10_1).f1.f2), .int .i64 ((rd_T38 l1 x10_1).f1.f3), .int .i64 ((rd_T38 l1 x10_1).f1.f4), .int .i64 ((rd_T38 l1 x10_1).f1.f5), .bool ((rd_T38 l1 x10_1).f2), .slice A277_8 ((rd_T38 l1 x10_1).f3.f0).length c277_8, .slice A277_9 ((rd_T38 l1 x10_1).f3.f1).length c277_9, .int .i64 0, .int .i64 0, .int .i64 0, .int .i64 0]) ?_ 10 _ rfl; (with_reducible repeat (first | refine blk_drewN ?_ _ | refine blk_drew ?_ | refine blk_alloc ?_ _)); refine blk_put (cs := #[.int .i64 ((rd_T38 l1 x10_1).f0), .slice A277_1 ((rd_T38 l1 x10_1).f1.f0).length c277_1, .slice A277_2 ((rd_T38 l1 x10_1).f1.f1).length c277_2, .int .i64 ((rd_T38 l1 x10_1).f1.f2), .int .i64 ((rd_T38 l1 x10_1).f1.f3), .int .i64 ((rd_T38 l1 x10_1).f1.f4), .int .i64 ((rd_T38 l1 x10_1).f1.f5), .bool ((rd_T38 l1 x10_1).f2), .slice A277_8 ((rd_T38 l1 x10_1).f3.f0).length c277_8, .slice none 0 0, .int .i64 0, .int .i64 0, .int .i64 0, .int .i64 0]) ?_ 9 _ rfl; (with_reducible repeat (first | refine blk_drewN ?_ _ | refine blk_drew ?_ | refine blk_alloc ?_ _)); refine blk_put (cs := #[.int .i64 ((rd_T38 l1 x10_1).f0), .slice A277_1 ((rd_T38 l1 x10_1).f1.f0).length c277_1, .slice A277_2 ((rd_T38 l1 x10_1).f1.f1).length c277_2, .int .i64 ((rd_T38 l1 x10_1).f1.f2), .int .i64 ((rd_T38 l1 x10_1).f1.f3), .int .i64 ((rd_T38 l1 x10_1).f1.f4), .int .i64 ((rd_T38 l1 x10_1).f1.f5), .bool ((rd_T38 l1 x10_1).f2), .slice none 0 0, .slice none 0 0, .int .i64 0, .int .i64 0, .int .i64 0, .int .i64 0]) ?_ 8 _ rfl; (with_reducible repeat (first | refine blk_drewN ?_ _ | refine blk_drew ?_ | refine blk_alloc ?_ _)); refine blk_put (cs := #[.int .i64 ((rd_T38 l1 x10_1).f0), .slice A277_1 ((rd_T38 l1 x10_1).f1.f0).length c277_1, .slice A277_2 ((rd_T38 l1 x10_1).f1.f1).length c277_2, .int .i64 ((rd_T38 l1 x10_1).f1.f2), .int .i64 ((rd_T38 l1 x10_1).f1.f3), .int .i64 ((rd_T38 l1 x10_1).f1.f4), .int .i64 ((rd_T38 l1 x10_1).f1.f5), .bool false, .slice none 0 0, .slice none 0 0, .int .i64 0, .int .i64 0, .int .i64 0, .int .i64 0]) ?_ 7 _ rfl; (with_reducible repeat (first | refine blk_drewN ?_ _ | refine blk_drew ?_ | refine blk_alloc ?_ _)); refine blk_put (cs := #[.int .i64 ((rd_T38 l1 x10_1).f0), .slice A277_1 ((rd_T38 l1 x10_1).f1.f0).length c277_1, .slice A277_2 ((rd_T38 l1 x10_1).f1.f1).length c277_2, .int .i64 ((rd_T38 l1 x10_1).f1.f2), .int .i64 ((rd_T38 l1 x10_1).f1.f3), .int .i64 ((rd_T38 l1 x10_1).f1.f4), .int .i64 0, .bool false, .slice none 0 0, .slice none 0 0, .int .i64 0, .int .i64 0, .int .i64 0, .int .i64 0]) ?_ 6 _ rfl; (with_reducible repeat (first | refine blk_drewN ?_ _ | refine blk_drew ?_ | refine blk_alloc ?_ _)); refine blk_put (cs := #[.int .i64 ((rd_T38 l1 x10_1).f0), .slice A277_1 ((rd_T38 l1 x10_1).f1.f0).length c277_1, .slice A277_2 ((rd_T38 l1 x10_1).f1.f1).length c277_2, .int .i64 ((rd_T38 l1 x10_1).f1.f2), .int .i64 ((rd_T38 l1 x10_1).f1.f3), .int .i64 0, .int .i64 0, .bool false, .slice none 0 0, .slice none 0 0, .int .i64 0, .int .i64 0, .int .i64 0, .int .i64 0]) ?_ 5 _ rfl; (with_reducible repeat (first | refine blk_drewN ?_ _ | refine blk_drew ?_ | refine blk_alloc ?_ _)); refine blk_put (cs := #[.int .i64 ((rd_T38 l1 x10_1).f0), .slice A277_1 ((rd_T38 l1 x10_1).f1.f0).length c277_1, .slice A277_2 ((rd_T38 l1 x10_1).f1.f1).length c277_2, .int .i64 ((rd_T38 l1 x10_1).f1.f2), .int .i64 0, .int .i64 0, .int .i64 0, .bool false, .slice none 0 0, .slice none 0 0, .int .i64 0, .int .i64 0, .int .i64 0, .int .i64 0]) ?_ 4 _ rfl; (with_reducible repeat (first | refine blk_drewN ?_ _ | refine blk_drew ?_ | refine blk_alloc ?_ _)); refine blk_put (cs := #[.int .i64 ((rd_T38 l1 x10_1).f0), .slice A277_1 ((rd_T38 l1 x10_1).f1.f0).length c277_1, .slice A277_2 ((rd_T38 l1 x10_1).f1.f1).length c277_2, .int .i64 0, .int .i64 0, .int .i64 0, .int .i64 0, .bool false, .slice none 0 0, .slice none 0 0, .int .i64 0, .int .i64 0, .int .i64 0, .int .i64 0]) ?_ 3 _ rfl; (with_reducible repeat (first | refine blk_drewN ?_ _ | refine blk_drew ?_ | refine blk_alloc ?_ _)); refine blk_put (cs := #[.int .i64 ((rd_T38 l1 x10_1).f0), .slice A277_1 ((rd_T38 l1 x10_1).f1.f0).length c277_1, .slice none 0 0, .int .i64 0, .int .i64 0, .int .i64 0, .int .i64 0, .bool false, .slice none 0 0, .slice none 0 0, .int .i64 0, .int .i64 0, .int .i64 0, .int .i64 0]) ?_ 2 _ rfl; (with_reducible repeat (first | refine blk_drewN ?_ _ | refine blk_drew ?_ | refine blk_alloc ?_ _)); refine blk_put (cs := #[.int .i64 ((rd_T38 l1 x10_1).f0), .slice none 0 0, .slice none 0 0, .int .i64 0, .int .i64 0, .int .i64 0, .int .i64 0, .bool false, .slice none 0 0, .slice none 0 0, .int .i64 0, .int .i64 0, .int .i64 0, .int .i64 0]) ?_ 1 _ rfl; (with_reducible repeat (first | refine blk_drewN ?_ _ | refine blk_drew ?_ | refine blk_alloc ?_ _)); refine blk_put (cs := #[.int .i64 0, .slice none 0 0, .slice none 0 0, .int .i64 0, .int .i64 0, .int .i64 0, .int .i64 0, .bool false, .slice none 0 0, .slice none 0 0, .int .i64 0, .int .i64 0, .int .i64 0, .int .i64 0]) ?_ 0 _ rfl; (with_reducible repeat (first | refine blk_drewN ?_ _ | refine blk_drew ?_ | refine blk_alloc ?_ _)); exact BK278.out⟩, ⟨by repeat (first | (with_reducible first | exact HB.out | apply below_alloc | apply pw_below_drewN | apply below_drew1 | refine below_set ?_ GE276.out | refine below_set ?_ GE278.out) | exact HB.out | exact Below.refl _ _)⟩⟩
                    · rw [if_neg c18] at H
                      have c18b0 : (((rd_T38 l1 x10_1).f0) == 2) = false := beq_eq_false_iff_ne.mpr c18
                      have c18b1 : (((rd_T38 l1 x10_1).f0) != 2) = true := bne_iff_ne.mpr c18
                      have H' := Aside0.mk H
                      clear H
                      have hnb22 := NB278_276.out
                      have hnc22 := NB276_278.out
                      have hcz23_0 : w8.cell? ⟨gb278, 0, none⟩ = some (.int .i64 0) := (blk_cell BK278.out 0).trans rfl
                      have hcz23_1 : w8.cell? ⟨gb278, 1, none⟩ = some (.slice none 0 0) := (blk_cell BK278.out 1).trans rfl
                      have hcz23_2 : w8.cell? ⟨gb278, 2, none⟩ = some (.slice none 0 0) := (blk_cell BK278.out 2).trans rfl
                      have hcz23_3 : w8.cell? ⟨gb278, 3, none⟩ = some (.int .i64 0) := (blk_cell BK278.out 3).trans rfl
                      have hcz23_4 : w8.cell? ⟨gb278, 4, none⟩ = some (.int .i64 0) := (blk_cell BK278.out 4).trans rfl
                      have hcz23_5 : w8.cell? ⟨gb278, 5, none⟩ = some (.int .i64 0) := (blk_cell BK278.out 5).trans rfl
                      have hcz23_6 : w8.cell? ⟨gb278, 6, none⟩ = some (.int .i64 0) := (blk_cell BK278.out 6).trans rfl
                      have hcz23_7 : w8.cell? ⟨gb278, 7, none⟩ = some (.bool false) := (blk_cell BK278.out 7).trans rfl
                      have hcz23_8 : w8.cell? ⟨gb278, 8, none⟩ = some (.slice none 0 0) := (blk_cell BK278.out 8).trans rfl
                      have hcz23_9 : w8.cell? ⟨gb278, 9, none⟩ = some (.slice none 0 0) := (blk_cell BK278.out 9).trans rfl
                      have hcz23_10 : w8.cell? ⟨gb278, 10, none⟩ = some (.int .i64 0) := (blk_cell BK278.out 10).trans rfl
                      have hcz23_11 : w8.cell? ⟨gb278, 11, none⟩ = some (.int .i64 0) := (blk_cell BK278.out 11).trans rfl
                      have hcz23_12 : w8.cell? ⟨gb278, 12, none⟩ = some (.int .i64 0) := (blk_cell BK278.out 12).trans rfl
                      have hcz23_13 : w8.cell? ⟨gb278, 13, none⟩ = some (.int .i64 0) := (blk_cell BK278.out 13).trans rfl
                      have hfz23_0 := blk_frozen BK278.out 0
                      have hfz23_1 := blk_frozen BK278.out 1
                      have hfz23_2 := blk_frozen BK278.out 2
                      have hfz23_3 := blk_frozen BK278.out 3
                      have hfz23_4 := blk_frozen BK278.out 4
                      have hfz23_5 := blk_frozen BK278.out 5
                      have hfz23_6 := blk_frozen BK278.out 6
                      have hfz23_7 := blk_frozen BK278.out 7
                      have hfz23_8 := blk_frozen BK278.out 8
                      have hfz23_9 := blk_frozen BK278.out 9
                      have hfz23_10 := blk_frozen BK278.out 10
                      have hfz23_11 := blk_frozen BK278.out 11
                      have hfz23_12 := blk_frozen BK278.out 12
                      have hfz23_13 := blk_frozen BK278.out 13
                      have hcz24_0 : w8.cell? ⟨gb276, 0, none⟩ = some (.slice A0_0 l0_0.length c0_0) := (blk_cell BK276.out 0).trans rfl
                      have hcz24_1 : w8.cell? ⟨gb276, 1, none⟩ = some (.slice A0_1 l0_1.length c0_1) := (blk_cell BK276.out 1).trans rfl
                      have hcz24_2 : w8.cell? ⟨gb276, 2, none⟩ = some (.int .i64 a0_2) := (blk_cell BK276.out 2).trans rfl
                      have hcz24_3 : w8.cell? ⟨gb276, 3, none⟩ = some (.bool false) := (blk_cell BK276.out 3).trans rfl
                      have hcz24_4 : w8.cell? ⟨gb276, 4, none⟩ = some (.bool a0_4) := (blk_cell BK276.out 4).trans rfl
                      have hcz24_5 : w8.cell? ⟨gb276, 5, none⟩ = some (.bool a0_5) := (blk_cell BK276.out 5).trans rfl
                      have hfz24_0 := blk_frozen BK276.out 0
                      have hfz24_1 := blk_frozen BK276.out 1
                      have hfz24_2 := blk_frozen BK276.out 2
                      have hfz24_3 := blk_frozen BK276.out 3
                      have hfz24_4 := blk_frozen BK276.out 4
                      have hfz24_5 := blk_frozen BK276.out 5
                      go_wp2_with (first | ((with_reducible refine gate_callee (f := 24) rfl ?_); refine goesL_ (some 21) rfl rfl Try.func24 (by kernel_rfl) rfl #[.slice A277_1 ((rd_T38 l1 x10_1).f1.f0).length c277_1, .slice A0_0 l0_0.length c0_0, .slice A0_1 l0_1.length c0_1] rfl (by (try simp only [List.map_toArray, List.map_cons, List.map_nil]); first | done | rfl | (simp only [List.length_drop, List.length_take]; rfl)) ?_; (with_reducible refine (octets_In.calls k1 _ _ ((rd_T38 l1 x10_1).f1.f0) _ _ l0_0 _ _ l0_1 true _ ?side1 ?side2 ?side3 ?side4 ?side5 ?side6 A11.out).mono ?_); (case side1 => exact Kd.C_below HR277_1.out (by repeat (first | (with_reducible first | exact HB.out | apply below_alloc | apply pw_below_drewN | apply below_drew1 | refine below_set ?_ GE276.out | refine below_set ?_ GE278.out) | exact HB.out | exact Below.refl _ _))); (case side2 => exact HC277_1.out); (case side3 => exact Kd.C_below HR0_0.out (by repeat (first | (with_reducible first | exact HB.out | apply below_alloc | apply pw_below_drewN | apply below_drew1 | refine below_set ?_ GE276.out | refine below_set ?_ GE278.out) | exact HB.out | exact Below.refl _ _))); (case side4 => exact HC0_0.out); (case side5 => exact Kd.C_below HR0_1.out (by repeat (first | (with_reducible first | exact HB.out | apply below_alloc | apply pw_below_drewN | apply below_drew1 | refine below_set ?_ GE276.out | refine below_set ?_ GE278.out) | exact HB.out | exact Below.refl _ _))); (case side6 => exact HC0_1.out); rintro e w' ⟨rfl, ⟨nd, rfl⟩⟩; refine ⟨_, rfl, ?_⟩))
                      go_meet
                      case rel => exact ⟨_, (false), (by first | rfl | (simp; done) | (simp [*]; done)), H', ⟨by have := HK1.out; first | omega | exact Nat.le_refl _⟩, ⟨by (with_reducible repeat (first | apply Kd.S_alloc | apply Kd.S_drewN | apply Kd.S_drew)); exact Kd.S_mono (Kd.S_far (p := ⟨gb278, 13, none⟩) (Kd.S_far (p := ⟨gb278, 12, none⟩) (Kd.S_far (p := ⟨gb278, 11, none⟩) (Kd.S_far (p := ⟨gb278, 10, none⟩) (Kd.S_far (p := ⟨gb278, 9, none⟩) (Kd.S_far (p := ⟨gb278, 8, none⟩) (Kd.S_far (p := ⟨gb278, 7, none⟩) (Kd.S_far (p := ⟨gb278, 6, none⟩) (Kd.S_far (p := ⟨gb278, 5, none⟩) (Kd.S_far (p := ⟨gb278, 4, none⟩) (Kd.S_far (p := ⟨gb278, 3, none⟩) (Kd.S_far (p := ⟨gb278, 2, none⟩) (Kd.S_far (p := ⟨gb278, 1, none⟩) (Kd.S_far (p := ⟨gb278, 0, none⟩) (Kd.S_mono HO_5.out (fun k_ hk => (⟨hk, hk.2⟩ : _ ∧ k_ ≠ gb278))) (fun _ hk => hk.2) (.int .i64 ((rd_T38 l1 x10_1).f0))) (fun _ hk => hk.2) (.slice A277_1 ((rd_T38 l1 x10_1).f1.f0).length c277_1)) (fun _ hk => hk.2) (.slice A277_2 ((rd_T38 l1 x10_1).f1.f1).length c277_2)) (fun _ hk => hk.2) (.int .i64 ((rd_T38 l1 x10_1).f1.f2))) (fun _ hk => hk.2) (.int .i64 ((rd_T38 l1 x10_1).f1.f3))) (fun _ hk => hk.2) (.int .i64 ((rd_T38 l1 x10_1).f1.f4))) (fun _ hk => hk.2) (.int .i64 ((rd_T38 l1 x10_1).f1.f5))) (fun _ hk => hk.2) (.bool ((rd_T38 l1 x10_1).f2))) (fun _ hk => hk.2) (.slice A277_8 ((rd_T38 l1 x10_1).f3.f0).length c277_8)) (fun _ hk => hk.2) (.slice A277_9 ((rd_T38 l1 x10_1).f3.f1).length c277_9)) (fun _ hk => hk.2) (.int .i64 ((rd_T38 l1 x10_1).f3.f2))) (fun _ hk => hk.2) (.int .i64 ((rd_T38 l1 x10_1).f3.f3))) (fun _ hk => hk.2) (.int .i64 ((rd_T38 l1 x10_1).f3.f4))) (fun _ hk => hk.2) (.int .i64 ((rd_T38 l1 x10_1).f3.f5))) (fun _ hk => hk.1.2)⟩, ⟨by (with_reducible repeat (first | refine blk_drewN ?_ _ | refine blk_drew ?_ | refine blk_alloc ?_ _)); refine blk_far ?_ NB276_278.out _; (with_reducible repeat (first | refine blk_drewN ?_ _ | refine blk_drew ?_ | refine blk_alloc ?_ _)); refine blk_far ?_ NB276_278.out _; (with_reducible repeat (first | refine blk_drewN ?_ _ | refine blk_drew ?_ | refine blk_alloc ?_ _)); refine blk_far ?_ NB276_278.out _; (with_reducible repeat (first | refine blk_drewN ?_ _ | refine blk_drew ?_ | refine blk_alloc ?_ _)); refine blk_far ?_ NB276_278.out _; (with_reducible repeat (first | refine blk_drewN ?_ _ | refine blk_drew ?_ | refine blk_alloc ?_ _)); refine blk_far ?_ NB276_278.out _; (with_reducible repeat (first | refine blk_drewN ?_ _ | refine blk_drew ?_ | refine blk_alloc ?_ _)); refine blk_far ?_ NB276_278.out _; (with_reducible repeat (first | refine blk_drewN ?_ _ | refine blk_drew ?_ | refine blk_alloc ?_ _)); refine blk_far ?_ NB276_278.out _; (with_reducible repeat (first | refine blk_drewN ?_ _ | refine blk_drew ?_ | refine blk_alloc ?_ _)); refine blk_far ?_ NB276_278.out _; (with_reducible repeat (first | refine blk_drewN ?_ _ | refine blk_drew ?_ | refine blk_alloc ?_ _)); refine blk_far ?_ NB276_278.out _; (with_reducible repeat (first | refine blk_drewN ?_ _ | refine blk_drew ?_ | refine blk_alloc ?_ _)); refine blk_far ?_ NB276_278.out _; (with_reducible repeat (first | refine blk_drewN ?_ _ | refine blk_drew ?_ | refine blk_alloc ?_ _)); refine blk_far ?_ NB276_278.out _; (with_reducible repeat (first | refine blk_drewN ?_ _ | refine blk_drew ?_ | refine blk_alloc ?_ _)); refine blk_far ?_ NB276_278.out _; (with_reducible repeat (first | refine blk_drewN ?_ _ | refine blk_drew ?_ | refine blk_alloc ?_ _)); refine blk_far ?_ NB276_278.out _; (with_reducible repeat (first | refine blk_drewN ?_ _ | refine blk_drew ?_ | refine blk_alloc ?_ _)); refine blk_far ?_ NB276_278.out _; (with_reducible repeat (first | refine blk_drewN ?_ _ | refine blk_drew ?_ | refine blk_alloc ?_ _)); exact BK276.out⟩, ⟨by (with_reducible repeat (first | refine blk_drewN ?_ _ | refine blk_drew ?_ | refine blk_alloc ?_ _)); refine blk_put (cs := #[.int .i64 ((rd_T38 l1 x10_1).f0), .slice A277_1 ((rd_T38 l1 x10_1).f1.f0).length c277_1, .slice A277_2 ((rd_T38 l1 x10_1).f1.f1).length c277_2, .int .i64 ((rd_T38 l1 x10_1).f1.f2), .int .i64 ((rd_T38 l1 x10_1).f1.f3), .int .i64 ((rd_T38 l1 x10_1).f1.f4), .int .i64 ((rd_T38 l1 x10_1).f1.f5), .bool ((rd_T38 l1 x10_1).f2), .slice A277_8 ((rd_T38 l1 x10_1).f3.f0).length c277_8, .slice A277_9 ((rd_T38 l1 x10_1).f3.f1).length c277_9, .int .i64 ((rd_T38 l1 x10_1).f3.f2), .int .i64 ((rd_T38 l1 x10_1).f3.f3), .int .i64 ((rd_T38 l1 x10_1).f3.f4), .int .i64 0]) ?_ 13 _ rfl; (with_reducible repeat (first | refine blk_drewN ?_ _ | refine blk_drew ?_ | refine blk_alloc ?_ _)); refine blk_put (cs := #[.int .i64 ((rd_T38 l1 x10_1).f0), .slice A277_1 ((rd_T38 l1 x10_1).f1.f0).length c277_1, .slice A277_2 ((rd_T38 l1 x10_1).f1.f1).length c277_2, .int .i64 ((rd_T38 l1 x10_1).f1.f2), .int .i64 ((rd_T38 l1 x10_1).f1.f3), .int .i64 ((rd_T38 l1 x10_1).f1.f4), .int .i64 ((rd_T38 l1 x10_1).f1.f5), .bool ((rd_T38 l1 x10_1).f2), .slice A277_8 ((rd_T38 l1 x10_1).f3.f0).length c277_8, .slice A277_9 ((rd_T38 l1 x10_1).f3.f1).length c277_9, .int .i64 ((rd_T38 l1 x10_1).f3.f2), .int .i64 ((rd_T38 l1 x10_1).f3.f3), .int .i64 0, .int .i64 0]) ?_ 12 _ rfl; (with_reducible repeat (first | refine blk_drewN ?_ _ | refine blk_drew ?_ | refine blk_alloc ?_ _)); refine blk_put (cs := #[.int .i64 ((rd_T38 l1 x10_1).f0), .slice A277_1 ((rd_T38 l1 x10_1).f1.f0).length c277_1, .slice A277_2 ((rd_T38 l1 x10_1).f1.f1).length c277_2, .int .i64 ((rd_T38 l1 x10_1).f1.f2), .int .i64 ((rd_T38 l1 x10_1).f1.f3), .int .i64 ((rd_T38 l1 x10_1).f1.f4), .int .i64 ((rd_T38 l1 x10_1).f1.f5), .bool ((rd_T38 l1 x10_1).f2), .slice A277_8 ((rd_T38 l1 x10_1).f3.f0).length c277_8, .slice A277_9 ((rd_T38 l1 x10_1).f3.f1).length c277_9, .int .i64 ((rd_T38 l1 x10_1).f3.f2), .int .i64 0, .int .i64 0, .int .i64 0]) ?_ 11 _ rfl; (with_reducible repeat (first | refine blk_drewN ?_ _ | refine blk_drew ?_ | refine blk_alloc ?_ _)); refine blk_put (cs := #[.int .i64 ((rd_T38 l1 x10_1).f0), .slice A277_1 ((rd_T38 l1 x10_1).f1.f0).length c277_1, .slice A277_2 ((rd_T38 l1 x10_1).f1.f1).length c277_2, .int .i64 ((rd_T38 l1 x10_1).f1.f2), .int .i64 ((rd_T38 l1 x10_1).f1.f3), .int .i64 ((rd_T38 l1 x10_1).f1.f4), .int .i64 ((rd_T38 l1 x10_1).f1.f5), .bool ((rd_T38 l1 x10_1).f2), .slice A277_8 ((rd_T38 l1 x10_1).f3.f0).length c277_8, .slice A277_9 ((rd_T38 l1 x10_1).f3.f1).length c277_9, .int .i64 0, .int .i64 0, .int .i64 0, .int .i64 0]) ?_ 10 _ rfl; (with_reducible repeat (first | refine blk_drewN ?_ _ | refine blk_drew ?_ | refine blk_alloc ?_ _)); refine blk_put (cs := #[.int .i64 ((rd_T38 l1 x10_1).f0), .slice A277_1 ((rd_T38 l1 x10_1).f1.f0).length c277_1, .slice A277_2 ((rd_T38 l1 x10_1).f1.f1).length c277_2, .int .i64 ((rd_T38 l1 x10_1).f1.f2), .int .i64 ((rd_T38 l1 x10_1).f1.f3), .int .i64 ((rd_T38 l1 x10_1).f1.f4), .int .i64 ((rd_T38 l1 x10_1).f1.f5), .bool ((rd_T38 l1 x10_1).f2), .slice A277_8 ((rd_T38 l1 x10_1).f3.f0).length c277_8, .slice none 0 0, .int .i64 0, .int .i64 0, .int .i64 0, .int .i64 0]) ?_ 9 _ rfl; (with_reducible repeat (first | refine blk_drewN ?_ _ | refine blk_drew ?_ | refine blk_alloc ?_ _)); refine blk_put (cs := #[.int .i64 ((rd_T38 l1 x10_1).f0), .slice A277_1 ((rd_T38 l1 x10_1).f1.f0).length c277_1, .slice A277_2 ((rd_T38 l1 x10_1).f1.f1).length c277_2, .int .i64 ((rd_T38 l1 x10_1).f1.f2), .int .i64 ((rd_T38 l1 x10_1).f1.f3), .int .i64 ((rd_T38 l1 x10_1).f1.f4), .int .i64 ((rd_T38 l1 x10_1).f1.f5), .bool ((rd_T38 l1 x10_1).f2), .slice none 0 0, .slice none 0 0, .int .i64 0, .int .i64 0, .int .i64 0, .int .i64 0]) ?_ 8 _ rfl; (with_reducible repeat (first | refine blk_drewN ?_ _ | refine blk_drew ?_ | refine blk_alloc ?_ _)); refine blk_put (cs := #[.int .i64 ((rd_T38 l1 x10_1).f0), .slice A277_1 ((rd_T38 l1 x10_1).f1.f0).length c277_1, .slice A277_2 ((rd_T38 l1 x10_1).f1.f1).length c277_2, .int .i64 ((rd_T38 l1 x10_1).f1.f2), .int .i64 ((rd_T38 l1 x10_1).f1.f3), .int .i64 ((rd_T38 l1 x10_1).f1.f4), .int .i64 ((rd_T38 l1 x10_1).f1.f5), .bool false, .slice none 0 0, .slice none 0 0, .int .i64 0, .int .i64 0, .int .i64 0, .int .i64 0]) ?_ 7 _ rfl; (with_reducible repeat (first | refine blk_drewN ?_ _ | refine blk_drew ?_ | refine blk_alloc ?_ _)); refine blk_put (cs := #[.int .i64 ((rd_T38 l1 x10_1).f0), .slice A277_1 ((rd_T38 l1 x10_1).f1.f0).length c277_1, .slice A277_2 ((rd_T38 l1 x10_1).f1.f1).length c277_2, .int .i64 ((rd_T38 l1 x10_1).f1.f2), .int .i64 ((rd_T38 l1 x10_1).f1.f3), .int .i64 ((rd_T38 l1 x10_1).f1.f4), .int .i64 0, .bool false, .slice none 0 0, .slice none 0 0, .int .i64 0, .int .i64 0, .int .i64 0, .int .i64 0]) ?_ 6 _ rfl; (with_reducible repeat (first | refine blk_drewN ?_ _ | refine blk_drew ?_ | refine blk_alloc ?_ _)); refine blk_put (cs := #[.int .i64 ((rd_T38 l1 x10_1).f0), .slice A277_1 ((rd_T38 l1 x10_1).f1.f0).length c277_1, .slice A277_2 ((rd_T38 l1 x10_1).f1.f1).length c277_2, .int .i64 ((rd_T38 l1 x10_1).f1.f2), .int .i64 ((rd_T38 l1 x10_1).f1.f3), .int .i64 0, .int .i64 0, .bool false, .slice none 0 0, .slice none 0 0, .int .i64 0, .int .i64 0, .int .i64 0, .int .i64 0]) ?_ 5 _ rfl; (with_reducible repeat (first | refine blk_drewN ?_ _ | refine blk_drew ?_ | refine blk_alloc ?_ _)); refine blk_put (cs := #[.int .i64 ((rd_T38 l1 x10_1).f0), .slice A277_1 ((rd_T38 l1 x10_1).f1.f0).length c277_1, .slice A277_2 ((rd_T38 l1 x10_1).f1.f1).length c277_2, .int .i64 ((rd_T38 l1 x10_1).f1.f2), .int .i64 0, .int .i64 0, .int .i64 0, .bool false, .slice none 0 0, .slice none 0 0, .int .i64 0, .int .i64 0, .int .i64 0, .int .i64 0]) ?_ 4 _ rfl; (with_reducible repeat (first | refine blk_drewN ?_ _ | refine blk_drew ?_ | refine blk_alloc ?_ _)); refine blk_put (cs := #[.int .i64 ((rd_T38 l1 x10_1).f0), .slice A277_1 ((rd_T38 l1 x10_1).f1.f0).length c277_1, .slice A277_2 ((rd_T38 l1 x10_1).f1.f1).length c277_2, .int .i64 0, .int .i64 0, .int .i64 0, .int .i64 0, .bool false, .slice none 0 0, .slice none 0 0, .int .i64 0, .int .i64 0, .int .i64 0, .int .i64 0]) ?_ 3 _ rfl; (with_reducible repeat (first | refine blk_drewN ?_ _ | refine blk_drew ?_ | refine blk_alloc ?_ _)); refine blk_put (cs := #[.int .i64 ((rd_T38 l1 x10_1).f0), .slice A277_1 ((rd_T38 l1 x10_1).f1.f0).length c277_1, .slice none 0 0, .int .i64 0, .int .i64 0, .int .i64 0, .int .i64 0, .bool false, .slice none 0 0, .slice none 0 0, .int .i64 0, .int .i64 0, .int .i64 0, .int .i64 0]) ?_ 2 _ rfl; (with_reducible repeat (first | refine blk_drewN ?_ _ | refine blk_drew ?_ | refine blk_alloc ?_ _)); refine blk_put (cs := #[.int .i64 ((rd_T38 l1 x10_1).f0), .slice none 0 0, .slice none 0 0, .int .i64 0, .int .i64 0, .int .i64 0, .int .i64 0, .bool false, .slice none 0 0, .slice none 0 0, .int .i64 0, .int .i64 0, .int .i64 0, .int .i64 0]) ?_ 1 _ rfl; (with_reducible repeat (first | refine blk_drewN ?_ _ | refine blk_drew ?_ | refine blk_alloc ?_ _)); refine blk_put (cs := #[.int .i64 0, .slice none 0 0, .slice none 0 0, .int .i64 0, .int .i64 0, .int .i64 0, .int .i64 0, .bool false, .slice none 0 0, .slice none 0 0, .int .i64 0, .int .i64 0, .int .i64 0, .int .i64 0]) ?_ 0 _ rfl; (with_reducible repeat (first | refine blk_drewN ?_ _ | refine blk_drew ?_ | refine blk_alloc ?_ _)); exact BK278.out⟩, ⟨by repeat (first | (with_reducible first | exact HB.out | apply below_alloc | apply pw_below_drewN | apply below_drew1 | refine below_set ?_ GE276.out | refine below_set ?_ GE278.out) | exact HB.out | exact Below.refl _ _)⟩⟩
                · rw [if_neg c13] at H
                  have c13b0 : (((rd_T38 l1 x10_1).f0) == 1) = false := beq_eq_false_iff_ne.mpr c13
                  have c13b1 : (((rd_T38 l1 x10_1).f0) != 1) = true := bne_iff_ne.mpr c13
                  (first | rw [c13b0] | (simp only [i64_w, i32_w]; rw [c13b0]) | skip)
                  by_cases c25 : ((rd_T38 l1 x10_1).f0) = 2
                  · rw [if_pos c25] at H
                    have c25b0 : (((rd_T38 l1 x10_1).f0) == 2) = true := beq_iff_eq.mpr c25
                    have c25b1 : (((rd_T38 l1 x10_1).f0) != 2) = false := bne_eq_false_iff_eq.mpr c25
                    clear c25
                    have H' := Aside0.mk H
                    clear H
                    have hnb26 := NB278_276.out
                    have hnc26 := NB276_278.out
                    have hcz27_0 : w8.cell? ⟨gb278, 0, none⟩ = some (.int .i64 0) := (blk_cell BK278.out 0).trans rfl
                    have hcz27_1 : w8.cell? ⟨gb278, 1, none⟩ = some (.slice none 0 0) := (blk_cell BK278.out 1).trans rfl
                    have hcz27_2 : w8.cell? ⟨gb278, 2, none⟩ = some (.slice none 0 0) := (blk_cell BK278.out 2).trans rfl
                    have hcz27_3 : w8.cell? ⟨gb278, 3, none⟩ = some (.int .i64 0) := (blk_cell BK278.out 3).trans rfl
                    have hcz27_4 : w8.cell? ⟨gb278, 4, none⟩ = some (.int .i64 0) := (blk_cell BK278.out 4).trans rfl
                    have hcz27_5 : w8.cell? ⟨gb278, 5, none⟩ = some (.int .i64 0) := (blk_cell BK278.out 5).trans rfl
                    have hcz27_6 : w8.cell? ⟨gb278, 6, none⟩ = some (.int .i64 0) := (blk_cell BK278.out 6).trans rfl
                    have hcz27_7 : w8.cell? ⟨gb278, 7, none⟩ = some (.bool false) := (blk_cell BK278.out 7).trans rfl
                    have hcz27_8 : w8.cell? ⟨gb278, 8, none⟩ = some (.slice none 0 0) := (blk_cell BK278.out 8).trans rfl
                    have hcz27_9 : w8.cell? ⟨gb278, 9, none⟩ = some (.slice none 0 0) := (blk_cell BK278.out 9).trans rfl
                    have hcz27_10 : w8.cell? ⟨gb278, 10, none⟩ = some (.int .i64 0) := (blk_cell BK278.out 10).trans rfl
                    have hcz27_11 : w8.cell? ⟨gb278, 11, none⟩ = some (.int .i64 0) := (blk_cell BK278.out 11).trans rfl
                    have hcz27_12 : w8.cell? ⟨gb278, 12, none⟩ = some (.int .i64 0) := (blk_cell BK278.out 12).trans rfl
                    have hcz27_13 : w8.cell? ⟨gb278, 13, none⟩ = some (.int .i64 0) := (blk_cell BK278.out 13).trans rfl
                    have hfz27_0 := blk_frozen BK278.out 0
                    have hfz27_1 := blk_frozen BK278.out 1
                    have hfz27_2 := blk_frozen BK278.out 2
                    have hfz27_3 := blk_frozen BK278.out 3
                    have hfz27_4 := blk_frozen BK278.out 4
                    have hfz27_5 := blk_frozen BK278.out 5
                    have hfz27_6 := blk_frozen BK278.out 6
                    have hfz27_7 := blk_frozen BK278.out 7
                    have hfz27_8 := blk_frozen BK278.out 8
                    have hfz27_9 := blk_frozen BK278.out 9
                    have hfz27_10 := blk_frozen BK278.out 10
                    have hfz27_11 := blk_frozen BK278.out 11
                    have hfz27_12 := blk_frozen BK278.out 12
                    have hfz27_13 := blk_frozen BK278.out 13
                    have hcz28_0 : w8.cell? ⟨gb276, 0, none⟩ = some (.slice A0_0 l0_0.length c0_0) := (blk_cell BK276.out 0).trans rfl
                    have hcz28_1 : w8.cell? ⟨gb276, 1, none⟩ = some (.slice A0_1 l0_1.length c0_1) := (blk_cell BK276.out 1).trans rfl
                    have hcz28_2 : w8.cell? ⟨gb276, 2, none⟩ = some (.int .i64 a0_2) := (blk_cell BK276.out 2).trans rfl
                    have hcz28_3 : w8.cell? ⟨gb276, 3, none⟩ = some (.bool a0_3) := (blk_cell BK276.out 3).trans rfl
                    have hcz28_4 : w8.cell? ⟨gb276, 4, none⟩ = some (.bool a0_4) := (blk_cell BK276.out 4).trans rfl
                    have hcz28_5 : w8.cell? ⟨gb276, 5, none⟩ = some (.bool a0_5) := (blk_cell BK276.out 5).trans rfl
                    have hfz28_0 := blk_frozen BK276.out 0
                    have hfz28_1 := blk_frozen BK276.out 1
                    have hfz28_2 := blk_frozen BK276.out 2
                    have hfz28_3 := blk_frozen BK276.out 3
                    have hfz28_4 := blk_frozen BK276.out 4
                    have hfz28_5 := blk_frozen BK276.out 5
                    go_wp2_with (first | ((with_reducible refine gate_callee (f := 24) rfl ?_); refine goesL_ (some 21) rfl rfl Try.func24 (by kernel_rfl) rfl #[.slice A277_1 ((rd_T38 l1 x10_1).f1.f0).length c277_1, .slice A0_0 l0_0.length c0_0, .slice A0_1 l0_1.length c0_1] rfl (by (try simp only [List.map_toArray, List.map_cons, List.map_nil]); first | done | rfl | (simp only [List.length_drop, List.length_take]; rfl)) ?_; (with_reducible refine (octets_In.calls k1 _ _ ((rd_T38 l1 x10_1).f1.f0) _ _ l0_0 _ _ l0_1 true _ ?side1 ?side2 ?side3 ?side4 ?side5 ?side6 A11.out).mono ?_); (case side1 => exact Kd.C_below HR277_1.out (by repeat (first | (with_reducible first | exact HB.out | apply below_alloc | apply pw_below_drewN | apply below_drew1 | refine below_set ?_ GE276.out | refine below_set ?_ GE278.out) | exact HB.out | exact Below.refl _ _))); (case side2 => exact HC277_1.out); (case side3 => exact Kd.C_below HR0_0.out (by repeat (first | (with_reducible first | exact HB.out | apply below_alloc | apply pw_below_drewN | apply below_drew1 | refine below_set ?_ GE276.out | refine below_set ?_ GE278.out) | exact HB.out | exact Below.refl _ _))); (case side4 => exact HC0_0.out); (case side5 => exact Kd.C_below HR0_1.out (by repeat (first | (with_reducible first | exact HB.out | apply below_alloc | apply pw_below_drewN | apply below_drew1 | refine below_set ?_ GE276.out | refine below_set ?_ GE278.out) | exact HB.out | exact Below.refl _ _))); (case side6 => exact HC0_1.out); rintro e w' ⟨rfl, ⟨nd, rfl⟩⟩; refine ⟨_, rfl, ?_⟩))
                    go_meet
                    case rel => exact ⟨_, (a0_4), (by first | rfl | (simp; done) | (simp [*]; done)), H', ⟨by have := HK1.out; first | omega | exact Nat.le_refl _⟩, ⟨by (with_reducible repeat (first | apply Kd.S_alloc | apply Kd.S_drewN | apply Kd.S_drew)); exact Kd.S_mono (Kd.S_far (p := ⟨gb278, 13, none⟩) (Kd.S_far (p := ⟨gb278, 12, none⟩) (Kd.S_far (p := ⟨gb278, 11, none⟩) (Kd.S_far (p := ⟨gb278, 10, none⟩) (Kd.S_far (p := ⟨gb278, 9, none⟩) (Kd.S_far (p := ⟨gb278, 8, none⟩) (Kd.S_far (p := ⟨gb278, 7, none⟩) (Kd.S_far (p := ⟨gb278, 6, none⟩) (Kd.S_far (p := ⟨gb278, 5, none⟩) (Kd.S_far (p := ⟨gb278, 4, none⟩) (Kd.S_far (p := ⟨gb278, 3, none⟩) (Kd.S_far (p := ⟨gb278, 2, none⟩) (Kd.S_far (p := ⟨gb278, 1, none⟩) (Kd.S_far (p := ⟨gb278, 0, none⟩) (Kd.S_mono HO_5.out (fun k_ hk => (⟨hk, hk.2⟩ : _ ∧ k_ ≠ gb278))) (fun _ hk => hk.2) (.int .i64 ((rd_T38 l1 x10_1).f0))) (fun _ hk => hk.2) (.slice A277_1 ((rd_T38 l1 x10_1).f1.f0).length c277_1)) (fun _ hk => hk.2) (.slice A277_2 ((rd_T38 l1 x10_1).f1.f1).length c277_2)) (fun _ hk => hk.2) (.int .i64 ((rd_T38 l1 x10_1).f1.f2))) (fun _ hk => hk.2) (.int .i64 ((rd_T38 l1 x10_1).f1.f3))) (fun _ hk => hk.2) (.int .i64 ((rd_T38 l1 x10_1).f1.f4))) (fun _ hk => hk.2) (.int .i64 ((rd_T38 l1 x10_1).f1.f5))) (fun _ hk => hk.2) (.bool ((rd_T38 l1 x10_1).f2))) (fun _ hk => hk.2) (.slice A277_8 ((rd_T38 l1 x10_1).f3.f0).length c277_8)) (fun _ hk => hk.2) (.slice A277_9 ((rd_T38 l1 x10_1).f3.f1).length c277_9)) (fun _ hk => hk.2) (.int .i64 ((rd_T38 l1 x10_1).f3.f2))) (fun _ hk => hk.2) (.int .i64 ((rd_T38 l1 x10_1).f3.f3))) (fun _ hk => hk.2) (.int .i64 ((rd_T38 l1 x10_1).f3.f4))) (fun _ hk => hk.2) (.int .i64 ((rd_T38 l1 x10_1).f3.f5))) (fun _ hk => hk.1.2)⟩, ⟨by (with_reducible repeat (first | refine blk_drewN ?_ _ | refine blk_drew ?_ | refine blk_alloc ?_ _)); refine blk_far ?_ NB276_278.out _; (with_reducible repeat (first | refine blk_drewN ?_ _ | refine blk_drew ?_ | refine blk_alloc ?_ _)); refine blk_far ?_ NB276_278.out _; (with_reducible repeat (first | refine blk_drewN ?_ _ | refine blk_drew ?_ | refine blk_alloc ?_ _)); refine blk_far ?_ NB276_278.out _; (with_reducible repeat (first | refine blk_drewN ?_ _ | refine blk_drew ?_ | refine blk_alloc ?_ _)); refine blk_far ?_ NB276_278.out _; (with_reducible repeat (first | refine blk_drewN ?_ _ | refine blk_drew ?_ | refine blk_alloc ?_ _)); refine blk_far ?_ NB276_278.out _; (with_reducible repeat (first | refine blk_drewN ?_ _ | refine blk_drew ?_ | refine blk_alloc ?_ _)); refine blk_far ?_ NB276_278.out _; (with_reducible repeat (first | refine blk_drewN ?_ _ | refine blk_drew ?_ | refine blk_alloc ?_ _)); refine blk_far ?_ NB276_278.out _; (with_reducible repeat (first | refine blk_drewN ?_ _ | refine blk_drew ?_ | refine blk_alloc ?_ _)); refine blk_far ?_ NB276_278.out _; (with_reducible repeat (first | refine blk_drewN ?_ _ | refine blk_drew ?_ | refine blk_alloc ?_ _)); refine blk_far ?_ NB276_278.out _; (with_reducible repeat (first | refine blk_drewN ?_ _ | refine blk_drew ?_ | refine blk_alloc ?_ _)); refine blk_far ?_ NB276_278.out _; (with_reducible repeat (first | refine blk_drewN ?_ _ | refine blk_drew ?_ | refine blk_alloc ?_ _)); refine blk_far ?_ NB276_278.out _; (with_reducible repeat (first | refine blk_drewN ?_ _ | refine blk_drew ?_ | refine blk_alloc ?_ _)); refine blk_far ?_ NB276_278.out _; (with_reducible repeat (first | refine blk_drewN ?_ _ | refine blk_drew ?_ | refine blk_alloc ?_ _)); refine blk_far ?_ NB276_278.out _; (with_reducible repeat (first | refine blk_drewN ?_ _ | refine blk_drew ?_ | refine blk_alloc ?_ _)); refine blk_far ?_ NB276_278.out _; (with_reducible repeat (first | refine blk_drewN ?_ _ | refine blk_drew ?_ | refine blk_alloc ?_ _)); exact BK276.out⟩, ⟨by (with_reducible repeat (first | refine blk_drewN ?_ _ | refine blk_drew ?_ | refine blk_alloc ?_ _)); refine blk_put (cs := #[.int .i64 ((rd_T38 l1 x10_1).f0), .slice A277_1 ((rd_T38 l1 x10_1).f1.f0).length c277_1, .slice A277_2 ((rd_T38 l1 x10_1).f1.f1).length c277_2, .int .i64 ((rd_T38 l1 x10_1).f1.f2), .int .i64 ((rd_T38 l1 x10_1).f1.f3), .int .i64 ((rd_T38 l1 x10_1).f1.f4), .int .i64 ((rd_T38 l1 x10_1).f1.f5), .bool ((rd_T38 l1 x10_1).f2), .slice A277_8 ((rd_T38 l1 x10_1).f3.f0).length c277_8, .slice A277_9 ((rd_T38 l1 x10_1).f3.f1).length c277_9, .int .i64 ((rd_T38 l1 x10_1).f3.f2), .int .i64 ((rd_T38 l1 x10_1).f3.f3), .int .i64 ((rd_T38 l1 x10_1).f3.f4), .int .i64 0]) ?_ 13 _ rfl; (with_reducible repeat (first | refine blk_drewN ?_ _ | refine blk_drew ?_ | refine blk_alloc ?_ _)); refine blk_put (cs := #[.int .i64 ((rd_T38 l1 x10_1).f0), .slice A277_1 ((rd_T38 l1 x10_1).f1.f0).length c277_1, .slice A277_2 ((rd_T38 l1 x10_1).f1.f1).length c277_2, .int .i64 ((rd_T38 l1 x10_1).f1.f2), .int .i64 ((rd_T38 l1 x10_1).f1.f3), .int .i64 ((rd_T38 l1 x10_1).f1.f4), .int .i64 ((rd_T38 l1 x10_1).f1.f5), .bool ((rd_T38 l1 x10_1).f2), .slice A277_8 ((rd_T38 l1 x10_1).f3.f0).length c277_8, .slice A277_9 ((rd_T38 l1 x10_1).f3.f1).length c277_9, .int .i64 ((rd_T38 l1 x10_1).f3.f2), .int .i64 ((rd_T38 l1 x10_1).f3.f3), .int .i64 0, .int .i64 0]) ?_ 12 _ rfl; (with_reducible repeat (first | refine blk_drewN ?_ _ | refine blk_drew ?_ | refine blk_alloc ?_ _)); refine blk_put (cs := #[.int .i64 ((rd_T38 l1 x10_1).f0), .slice A277_1 ((rd_T38 l1 x10_1).f1.f0).length c277_1, .slice A277_2 ((rd_T38 l1 x10_1).f1.f1).length c277_2, .int .i64 ((rd_T38 l1 x10_1).f1.f2), .int .i64 ((rd_T38 l1 x10_1).f1.f3), .int .i64 ((rd_T38 l1 x10_1).f1.f4), .int .i64 ((rd_T38 l1 x10_1).f1.f5), .bool ((rd_T38 l1 x10_1).f2), .slice A277_8 ((rd_T38 l1 x10_1).f3.f0).length c277_8, .slice A277_9 ((rd_T38 l1 x10_1).f3.f1).length c277_9, .int .i64 ((rd_T38 l1 x10_1).f3.f2), .int .i64 0, .int .i64 0, .int .i64 0]) ?_ 11 _ rfl; (with_reducible repeat (first | refine blk_drewN ?_ _ | refine blk_drew ?_ | refine blk_alloc ?_ _)); refine blk_put (cs := #[.int .i64 ((rd_T38 l1 x10_1).f0), .slice A277_1 ((rd_T38 l1 x10_1).f1.f0).length c277_1, .slice A277_2 ((rd_T38 l1 x10_1).f1.f1).length c277_2, .int .i64 ((rd_T38 l1 x10_1).f1.f2), .int .i64 ((rd_T38 l1 x10_1).f1.f3), .int .i64 ((rd_T38 l1 x10_1).f1.f4), .int .i64 ((rd_T38 l1 x10_1).f1.f5), .bool ((rd_T38 l1 x10_1).f2), .slice A277_8 ((rd_T38 l1 x10_1).f3.f0).length c277_8, .slice A277_9 ((rd_T38 l1 x10_1).f3.f1).length c277_9, .int .i64 0, .int .i64 0, .int .i64 0, .int .i64 0]) ?_ 10 _ rfl; (with_reducible repeat (first | refine blk_drewN ?_ _ | refine blk_drew ?_ | refine blk_alloc ?_ _)); refine blk_put (cs := #[.int .i64 ((rd_T38 l1 x10_1).f0), .slice A277_1 ((rd_T38 l1 x10_1).f1.f0).length c277_1, .slice A277_2 ((rd_T38 l1 x10_1).f1.f1).length c277_2, .int .i64 ((rd_T38 l1 x10_1).f1.f2), .int .i64 ((rd_T38 l1 x10_1).f1.f3), .int .i64 ((rd_T38 l1 x10_1).f1.f4), .int .i64 ((rd_T38 l1 x10_1).f1.f5), .bool ((rd_T38 l1 x10_1).f2), .slice A277_8 ((rd_T38 l1 x10_1).f3.f0).length c277_8, .slice none 0 0, .int .i64 0, .int .i64 0, .int .i64 0, .int .i64 0]) ?_ 9 _ rfl; (with_reducible repeat (first | refine blk_drewN ?_ _ | refine blk_drew ?_ | refine blk_alloc ?_ _)); refine blk_put (cs := #[.int .i64 ((rd_T38 l1 x10_1).f0), .slice A277_1 ((rd_T38 l1 x10_1).f1.f0).length c277_1, .slice A277_2 ((rd_T38 l1 x10_1).f1.f1).length c277_2, .int .i64 ((rd_T38 l1 x10_1).f1.f2), .int .i64 ((rd_T38 l1 x10_1).f1.f3), .int .i64 ((rd_T38 l1 x10_1).f1.f4), .int .i64 ((rd_T38 l1 x10_1).f1.f5), .bool ((rd_T38 l1 x10_1).f2), .slice none 0 0, .slice none 0 0, .int .i64 0, .int .i64 0, .int .i64 0, .int .i64 0]) ?_ 8 _ rfl; (with_reducible repeat (first | refine blk_drewN ?_ _ | refine blk_drew ?_ | refine blk_alloc ?_ _)); refine blk_put (cs := #[.int .i64 ((rd_T38 l1 x10_1).f0), .slice A277_1 ((rd_T38 l1 x10_1).f1.f0).length c277_1, .slice A277_2 ((rd_T38 l1 x10_1).f1.f1).length c277_2, .int .i64 ((rd_T38 l1 x10_1).f1.f2), .int .i64 ((rd_T38 l1 x10_1).f1.f3), .int .i64 ((rd_T38 l1 x10_1).f1.f4), .int .i64 ((rd_T38 l1 x10_1).f1.f5), .bool false, .slice none 0 0, .slice none 0 0, .int .i64 0, .int .i64 0, .int .i64 0, .int .i64 0]) ?_ 7 _ rfl; (with_reducible repeat (first | refine blk_drewN ?_ _ | refine blk_drew ?_ | refine blk_alloc ?_ _)); refine blk_put (cs := #[.int .i64 ((rd_T38 l1 x10_1).f0), .slice A277_1 ((rd_T38 l1 x10_1).f1.f0).length c277_1, .slice A277_2 ((rd_T38 l1 x10_1).f1.f1).length c277_2, .int .i64 ((rd_T38 l1 x10_1).f1.f2), .int .i64 ((rd_T38 l1 x10_1).f1.f3), .int .i64 ((rd_T38 l1 x10_1).f1.f4), .int .i64 0, .bool false, .slice none 0 0, .slice none 0 0, .int .i64 0, .int .i64 0, .int .i64 0, .int .i64 0]) ?_ 6 _ rfl; (with_reducible repeat (first | refine blk_drewN ?_ _ | refine blk_drew ?_ | refine blk_alloc ?_ _)); refine blk_put (cs := #[.int .i64 ((rd_T38 l1 x10_1).f0), .slice A277_1 ((rd_T38 l1 x10_1).f1.f0).length c277_1, .slice A277_2 ((rd_T38 l1 x10_1).f1.f1).length c277_2, .int .i64 ((rd_T38 l1 x10_1).f1.f2), .int .i64 ((rd_T38 l1 x10_1).f1.f3), .int .i64 0, .int .i64 0, .bool false, .slice none 0 0, .slice none 0 0, .int .i64 0, .int .i64 0, .int .i64 0, .int .i64 0]) ?_ 5 _ rfl; (with_reducible repeat (first | refine blk_drewN ?_ _ | refine blk_drew ?_ | refine blk_alloc ?_ _)); refine blk_put (cs := #[.int .i64 ((rd_T38 l1 x10_1).f0), .slice A277_1 ((rd_T38 l1 x10_1).f1.f0).length c277_1, .slice A277_2 ((rd_T38 l1 x10_1).f1.f1).length c277_2, .int .i64 ((rd_T38 l1 x10_1).f1.f2), .int .i64 0, .int .i64 0, .int .i64 0, .bool false, .slice none 0 0, .slice none 0 0, .int .i64 0, .int .i64 0, .int .i64 0, .int .i64 0]) ?_ 4 _ rfl; (with_reducible repeat (first | refine blk_drewN ?_ _ | refine blk_drew ?_ | refine blk_alloc ?_ _)); refine blk_put (cs := #[.int .i64 ((rd_T38 l1 x10_1).f0), .slice A277_1 ((rd_T38 l1 x10_1).f1.f0).length c277_1, .slice A277_2 ((rd_T38 l1 x10_1).f1.f1).length c277_2, .int .i64 0, .int .i64 0, .int .i64 0, .int .i64 0, .bool false, .slice none 0 0, .slice none 0 0, .int .i64 0, .int .i64 0, .int .i64 0, .int .i64 0]) ?_ 3 _ rfl; (with_reducible repeat (first | refine blk_drewN ?_ _ | refine blk_drew ?_ | refine blk_alloc ?_ _)); refine blk_put (cs := #[.int .i64 ((rd_T38 l1 x10_1).f0), .slice A277_1 ((rd_T38 l1 x10_1).f1.f0).length c277_1, .slice none 0 0, .int .i64 0, .int .i64 0, .int .i64 0, .int .i64 0, .bool false, .slice none 0 0, .slice none 0 0, .int .i64 0, .int .i64 0, .int .i64 0, .int .i64 0]) ?_ 2 _ rfl; (with_reducible repeat (first | refine blk_drewN ?_ _ | refine blk_drew ?_ | refine blk_alloc ?_ _)); refine blk_put (cs := #[.int .i64 ((rd_T38 l1 x10_1).f0), .slice none 0 0, .slice none 0 0, .int .i64 0, .int .i64 0, .int .i64 0, .int .i64 0, .bool false, .slice none 0 0, .slice none 0 0, .int .i64 0, .int .i64 0, .int .i64 0, .int .i64 0]) ?_ 1 _ rfl; (with_reducible repeat (first | refine blk_drewN ?_ _ | refine blk_drew ?_ | refine blk_alloc ?_ _)); refine blk_put (cs := #[.int .i64 0, .slice none 0 0, .slice none 0 0, .int .i64 0, .int .i64 0, .int .i64 0, .int .i64 0, .bool false, .slice none 0 0, .slice none 0 0, .int .i64 0, .int .i64 0, .int .i64 0, .int .i64 0]) ?_ 0 _ rfl; (with_reducible repeat (first | refine blk_drewN ?_ _ | refine blk_drew ?_ | refine blk_alloc ?_ _)); exact BK278.out⟩, ⟨by repeat (first | (with_reducible first | exact HB.out | apply below_alloc | apply pw_below_drewN | apply below_drew1 | refine below_set ?_ GE276.out | refine below_set ?_ GE278.out) | exact HB.out | exact Below.refl _ _)⟩⟩
                  · rw [if_neg c25] at H
                    have c25b0 : (((rd_T38 l1 x10_1).f0) == 2) = false := beq_eq_false_iff_ne.mpr c25
                    have c25b1 : (((rd_T38 l1 x10_1).f0) != 2) = true := bne_iff_ne.mpr c25
                    have H' := Aside0.mk H
                    clear H
                    have hnb29 := NB278_276.out
                    have hnc29 := NB276_278.out
                    have hcz30_0 : w8.cell? ⟨gb278, 0, none⟩ = some (.int .i64 0) := (blk_cell BK278.out 0).trans rfl
                    have hcz30_1 : w8.cell? ⟨gb278, 1, none⟩ = some (.slice none 0 0) := (blk_cell BK278.out 1).trans rfl
                    have hcz30_2 : w8.cell? ⟨gb278, 2, none⟩ = some (.slice none 0 0) := (blk_cell BK278.out 2).trans rfl
                    have hcz30_3 : w8.cell? ⟨gb278, 3, none⟩ = some (.int .i64 0) := (blk_cell BK278.out 3).trans rfl
                    have hcz30_4 : w8.cell? ⟨gb278, 4, none⟩ = some (.int .i64 0) := (blk_cell BK278.out 4).trans rfl
                    have hcz30_5 : w8.cell? ⟨gb278, 5, none⟩ = some (.int .i64 0) := (blk_cell BK278.out 5).trans rfl
                    have hcz30_6 : w8.cell? ⟨gb278, 6, none⟩ = some (.int .i64 0) := (blk_cell BK278.out 6).trans rfl
                    have hcz30_7 : w8.cell? ⟨gb278, 7, none⟩ = some (.bool false) := (blk_cell BK278.out 7).trans rfl
                    have hcz30_8 : w8.cell? ⟨gb278, 8, none⟩ = some (.slice none 0 0) := (blk_cell BK278.out 8).trans rfl
                    have hcz30_9 : w8.cell? ⟨gb278, 9, none⟩ = some (.slice none 0 0) := (blk_cell BK278.out 9).trans rfl
                    have hcz30_10 : w8.cell? ⟨gb278, 10, none⟩ = some (.int .i64 0) := (blk_cell BK278.out 10).trans rfl
                    have hcz30_11 : w8.cell? ⟨gb278, 11, none⟩ = some (.int .i64 0) := (blk_cell BK278.out 11).trans rfl
                    have hcz30_12 : w8.cell? ⟨gb278, 12, none⟩ = some (.int .i64 0) := (blk_cell BK278.out 12).trans rfl
                    have hcz30_13 : w8.cell? ⟨gb278, 13, none⟩ = some (.int .i64 0) := (blk_cell BK278.out 13).trans rfl
                    have hfz30_0 := blk_frozen BK278.out 0
                    have hfz30_1 := blk_frozen BK278.out 1
                    have hfz30_2 := blk_frozen BK278.out 2
                    have hfz30_3 := blk_frozen BK278.out 3
                    have hfz30_4 := blk_frozen BK278.out 4
                    have hfz30_5 := blk_frozen BK278.out 5
                    have hfz30_6 := blk_frozen BK278.out 6
                    have hfz30_7 := blk_frozen BK278.out 7
                    have hfz30_8 := blk_frozen BK278.out 8
                    have hfz30_9 := blk_frozen BK278.out 9
                    have hfz30_10 := blk_frozen BK278.out 10
                    have hfz30_11 := blk_frozen BK278.out 11
                    have hfz30_12 := blk_frozen BK278.out 12
                    have hfz30_13 := blk_frozen BK278.out 13
                    have hcz31_0 : w8.cell? ⟨gb276, 0, none⟩ = some (.slice A0_0 l0_0.length c0_0) := (blk_cell BK276.out 0).trans rfl
                    have hcz31_1 : w8.cell? ⟨gb276, 1, none⟩ = some (.slice A0_1 l0_1.length c0_1) := (blk_cell BK276.out 1).trans rfl
                    have hcz31_2 : w8.cell? ⟨gb276, 2, none⟩ = some (.int .i64 a0_2) := (blk_cell BK276.out 2).trans rfl
                    have hcz31_3 : w8.cell? ⟨gb276, 3, none⟩ = some (.bool a0_3) := (blk_cell BK276.out 3).trans rfl
                    have hcz31_4 : w8.cell? ⟨gb276, 4, none⟩ = some (.bool a0_4) := (blk_cell BK276.out 4).trans rfl
                    have hcz31_5 : w8.cell? ⟨gb276, 5, none⟩ = some (.bool a0_5) := (blk_cell BK276.out 5).trans rfl
                    have hfz31_0 := blk_frozen BK276.out 0
                    have hfz31_1 := blk_frozen BK276.out 1
                    have hfz31_2 := blk_frozen BK276.out 2
                    have hfz31_3 := blk_frozen BK276.out 3
                    have hfz31_4 := blk_frozen BK276.out 4
                    have hfz31_5 := blk_frozen BK276.out 5
                    go_wp2_with (first | ((with_reducible refine gate_callee (f := 24) rfl ?_); refine goesL_ (some 21) rfl rfl Try.func24 (by kernel_rfl) rfl #[.slice A277_1 ((rd_T38 l1 x10_1).f1.f0).length c277_1, .slice A0_0 l0_0.length c0_0, .slice A0_1 l0_1.length c0_1] rfl (by (try simp only [List.map_toArray, List.map_cons, List.map_nil]); first | done | rfl | (simp only [List.length_drop, List.length_take]; rfl)) ?_; (with_reducible refine (octets_In.calls k1 _ _ ((rd_T38 l1 x10_1).f1.f0) _ _ l0_0 _ _ l0_1 true _ ?side1 ?side2 ?side3 ?side4 ?side5 ?side6 A11.out).mono ?_); (case side1 => exact Kd.C_below HR277_1.out (by repeat (first | (with_reducible first | exact HB.out | apply below_alloc | apply pw_below_drewN | apply below_drew1 | refine below_set ?_ GE276.out | refine below_set ?_ GE278.out) | exact HB.out | exact Below.refl _ _))); (case side2 => exact HC277_1.out); (case side3 => exact Kd.C_below HR0_0.out (by repeat (first | (with_reducible first | exact HB.out | apply below_alloc | apply pw_below_drewN | apply below_drew1 | refine below_set ?_ GE276.out | refine below_set ?_ GE278.out) | exact HB.out | exact Below.refl _ _))); (case side4 => exact HC0_0.out); (case side5 => exact Kd.C_below HR0_1.out (by repeat (first | (with_reducible first | exact HB.out | apply below_alloc | apply pw_below_drewN | apply below_drew1 | refine below_set ?_ GE276.out | refine below_set ?_ GE278.out) | exact HB.out | exact Below.refl _ _))); (case side6 => exact HC0_1.out); rintro e w' ⟨rfl, ⟨nd, rfl⟩⟩; refine ⟨_, rfl, ?_⟩))
                    go_meet
                    case rel => exact ⟨_, (false), (by first | rfl | (simp; done) | (simp [*]; done)), H', ⟨by have := HK1.out; first | omega | exact Nat.le_refl _⟩, ⟨by (with_reducible repeat (first | apply Kd.S_alloc | apply Kd.S_drewN | apply Kd.S_drew)); exact Kd.S_mono (Kd.S_far (p := ⟨gb278, 13, none⟩) (Kd.S_far (p := ⟨gb278, 12, none⟩) (Kd.S_far (p := ⟨gb278, 11, none⟩) (Kd.S_far (p := ⟨gb278, 10, none⟩) (Kd.S_far (p := ⟨gb278, 9, none⟩) (Kd.S_far (p := ⟨gb278, 8, none⟩) (Kd.S_far (p := ⟨gb278, 7, none⟩) (Kd.S_far (p := ⟨gb278, 6, none⟩) (Kd.S_far (p := ⟨gb278, 5, none⟩) (Kd.S_far (p := ⟨gb278, 4, none⟩) (Kd.S_far (p := ⟨gb278, 3, none⟩) (Kd.S_far (p := ⟨gb278, 2, none⟩) (Kd.S_far (p := ⟨gb278, 1, none⟩) (Kd.S_far (p := ⟨gb278, 0, none⟩) (Kd.S_mono HO_5.out (fun k_ hk => (⟨hk, hk.2⟩ : _ ∧ k_ ≠ gb278))) (fun _ hk => hk.2) (.int .i64 ((rd_T38 l1 x10_1).f0))) (fun _ hk => hk.2) (.slice A277_1 ((rd_T38 l1 x10_1).f1.f0).length c277_1)) (fun _ hk => hk.2) (.slice A277_2 ((rd_T38 l1 x10_1).f1.f1).length c277_2)) (fun _ hk => hk.2) (.int .i64 ((rd_T38 l1 x10_1).f1.f2))) (fun _ hk => hk.2) (.int .i64 ((rd_T38 l1 x10_1).f1.f3))) (fun _ hk => hk.2) (.int .i64 ((rd_T38 l1 x10_1).f1.f4))) (fun _ hk => hk.2) (.int .i64 ((rd_T38 l1 x10_1).f1.f5))) (fun _ hk => hk.2) (.bool ((rd_T38 l1 x10_1).f2))) (fun _ hk => hk.2) (.slice A277_8 ((rd_T38 l1 x10_1).f3.f0).length c277_8)) (fun _ hk => hk.2) (.slice A277_9 ((rd_T38 l1 x10_1).f3.f1).length c277_9)) (fun _ hk => hk.2) (.int .i64 ((rd_T38 l1 x10_1).f3.f2))) (fun _ hk => hk.2) (.int .i64 ((rd_T38 l1 x10_1).f3.f3))) (fun _ hk => hk.2) (.int .i64 ((rd_T38 l1 x10_1).f3.f4))) (fun _ hk => hk.2) (.int .i64 ((rd_T38 l1 x10_1).f3.f5))) (fun _ hk => hk.1.2)⟩, ⟨by (with_reducible repeat (first | refine blk_drewN ?_ _ | refine blk_drew ?_ | refine blk_alloc ?_ _)); refine blk_far ?_ NB276_278.out _; (with_reducible repeat (first | refine blk_drewN ?_ _ | refine blk_drew ?_ | refine blk_alloc ?_ _)); refine blk_far ?_ NB276_278.out _; (with_reducible repeat (first | refine blk_drewN ?_ _ | refine blk_drew ?_ | refine blk_alloc ?_ _)); refine blk_far ?_ NB276_278.out _; (with_reducible repeat (first | refine blk_drewN ?_ _ | refine blk_drew ?_ | refine blk_alloc ?_ _)); refine blk_far ?_ NB276_278.out _; (with_reducible repeat (first | refine blk_drewN ?_ _ | refine blk_drew ?_ | refine blk_alloc ?_ _)); refine blk_far ?_ NB276_278.out _; (with_reducible repeat (first | refine blk_drewN ?_ _ | refine blk_drew ?_ | refine blk_alloc ?_ _)); refine blk_far ?_ NB276_278.out _; (with_reducible repeat (first | refine blk_drewN ?_ _ | refine blk_drew ?_ | refine blk_alloc ?_ _)); refine blk_far ?_ NB276_278.out _; (with_reducible repeat (first | refine blk_drewN ?_ _ | refine blk_drew ?_ | refine blk_alloc ?_ _)); refine blk_far ?_ NB276_278.out _; (with_reducible repeat (first | refine blk_drewN ?_ _ | refine blk_drew ?_ | refine blk_alloc ?_ _)); refine blk_far ?_ NB276_278.out _; (with_reducible repeat (first | refine blk_drewN ?_ _ | refine blk_drew ?_ | refine blk_alloc ?_ _)); refine blk_far ?_ NB276_278.out _; (with_reducible repeat (first | refine blk_drewN ?_ _ | refine blk_drew ?_ | refine blk_alloc ?_ _)); refine blk_far ?_ NB276_278.out _; (with_reducible repeat (first | refine blk_drewN ?_ _ | refine blk_drew ?_ | refine blk_alloc ?_ _)); refine blk_far ?_ NB276_278.out _; (with_reducible repeat (first | refine blk_drewN ?_ _ | refine blk_drew ?_ | refine blk_alloc ?_ _)); refine blk_far ?_ NB276_278.out _; (with_reducible repeat (first | refine blk_drewN ?_ _ | refine blk_drew ?_ | refine blk_alloc ?_ _)); refine blk_far ?_ NB276_278.out _; (with_reducible repeat (first | refine blk_drewN ?_ _ | refine blk_drew ?_ | refine blk_alloc ?_ _)); exact BK276.out⟩, ⟨by (with_reducible repeat (first | refine blk_drewN ?_ _ | refine blk_drew ?_ | refine blk_alloc ?_ _)); refine blk_put (cs := #[.int .i64 ((rd_T38 l1 x10_1).f0), .slice A277_1 ((rd_T38 l1 x10_1).f1.f0).length c277_1, .slice A277_2 ((rd_T38 l1 x10_1).f1.f1).length c277_2, .int .i64 ((rd_T38 l1 x10_1).f1.f2), .int .i64 ((rd_T38 l1 x10_1).f1.f3), .int .i64 ((rd_T38 l1 x10_1).f1.f4), .int .i64 ((rd_T38 l1 x10_1).f1.f5), .bool ((rd_T38 l1 x10_1).f2), .slice A277_8 ((rd_T38 l1 x10_1).f3.f0).length c277_8, .slice A277_9 ((rd_T38 l1 x10_1).f3.f1).length c277_9, .int .i64 ((rd_T38 l1 x10_1).f3.f2), .int .i64 ((rd_T38 l1 x10_1).f3.f3), .int .i64 ((rd_T38 l1 x10_1).f3.f4), .int .i64 0]) ?_ 13 _ rfl; (with_reducible repeat (first | refine blk_drewN ?_ _ | refine blk_drew ?_ | refine blk_alloc ?_ _)); refine blk_put (cs := #[.int .i64 ((rd_T38 l1 x10_1).f0), .slice A277_1 ((rd_T38 l1 x10_1).f1.f0).length c277_1, .slice A277_2 ((rd_T38 l1 x10_1).f1.f1).length c277_2, .int .i64 ((rd_T38 l1 x10_1).f1.f2), .int .i64 ((rd_T38 l1 x10_1).f1.f3), .int .i64 ((rd_T38 l1 x10_1).f1.f4), .int .i64 ((rd_T38 l1 x10_1).f1.f5), .bool ((rd_T38 l1 x10_1).f2), .slice A277_8 ((rd_T38 l1 x10_1).f3.f0).length c277_8, .slice A277_9 ((rd_T38 l1 x10_1).f3.f1).length c277_9, .int .i64 ((rd_T38 l1 x10_1).f3.f2), .int .i64 ((rd_T38 l1 x10_1).f3.f3), .int .i64 0, .int .i64 0]) ?_ 12 _ rfl; (with_reducible repeat (first | refine blk_drewN ?_ _ | refine blk_drew ?_ | refine blk_alloc ?_ _)); refine blk_put (cs := #[.int .i64 ((rd_T38 l1 x10_1).f0), .slice A277_1 ((rd_T38 l1 x10_1).f1.f0).length c277_1, .slice A277_2 ((rd_T38 l1 x10_1).f1.f1).length c277_2, .int .i64 ((rd_T38 l1 x10_1).f1.f2), .int .i64 ((rd_T38 l1 x10_1).f1.f3), .int .i64 ((rd_T38 l1 x10_1).f1.f4), .int .i64 ((rd_T38 l1 x10_1).f1.f5), .bool ((rd_T38 l1 x10_1).f2), .slice A277_8 ((rd_T38 l1 x10_1).f3.f0).length c277_8, .slice A277_9 ((rd_T38 l1 x10_1).f3.f1).length c277_9, .int .i64 ((rd_T38 l1 x10_1).f3.f2), .int .i64 0, .int .i64 0, .int .i64 0]) ?_ 11 _ rfl; (with_reducible repeat (first | refine blk_drewN ?_ _ | refine blk_drew ?_ | refine blk_alloc ?_ _)); refine blk_put (cs := #[.int .i64 ((rd_T38 l1 x10_1).f0), .slice A277_1 ((rd_T38 l1 x10_1).f1.f0).length c277_1, .slice A277_2 ((rd_T38 l1 x10_1).f1.f1).length c277_2, .int .i64 ((rd_T38 l1 x10_1).f1.f2), .int .i64 ((rd_T38 l1 x10_1).f1.f3), .int .i64 ((rd_T38 l1 x10_1).f1.f4), .int .i64 ((rd_T38 l1 x10_1).f1.f5), .bool ((rd_T38 l1 x10_1).f2), .slice A277_8 ((rd_T38 l1 x10_1).f3.f0).length c277_8, .slice A277_9 ((rd_T38 l1 x10_1).f3.f1).length c277_9, .int .i64 0, .int .i64 0, .int .i64 0, .int .i64 0]) ?_ 10 _ rfl; (with_reducible repeat (first | refine blk_drewN ?_ _ | refine blk_drew ?_ | refine blk_alloc ?_ _)); refine blk_put (cs := #[.int .i64 ((rd_T38 l1 x10_1).f0), .slice A277_1 ((rd_T38 l1 x10_1).f1.f0).length c277_1, .slice A277_2 ((rd_T38 l1 x10_1).f1.f1).length c277_2, .int .i64 ((rd_T38 l1 x10_1).f1.f2), .int .i64 ((rd_T38 l1 x10_1).f1.f3), .int .i64 ((rd_T38 l1 x10_1).f1.f4), .int .i64 ((rd_T38 l1 x10_1).f1.f5), .bool ((rd_T38 l1 x10_1).f2), .slice A277_8 ((rd_T38 l1 x10_1).f3.f0).length c277_8, .slice none 0 0, .int .i64 0, .int .i64 0, .int .i64 0, .int .i64 0]) ?_ 9 _ rfl; (with_reducible repeat (first | refine blk_drewN ?_ _ | refine blk_drew ?_ | refine blk_alloc ?_ _)); refine blk_put (cs := #[.int .i64 ((rd_T38 l1 x10_1).f0), .slice A277_1 ((rd_T38 l1 x10_1).f1.f0).length c277_1, .slice A277_2 ((rd_T38 l1 x10_1).f1.f1).length c277_2, .int .i64 ((rd_T38 l1 x10_1).f1.f2), .int .i64 ((rd_T38 l1 x10_1).f1.f3), .int .i64 ((rd_T38 l1 x10_1).f1.f4), .int .i64 ((rd_T38 l1 x10_1).f1.f5), .bool ((rd_T38 l1 x10_1).f2), .slice none 0 0, .slice none 0 0, .int .i64 0, .int .i64 0, .int .i64 0, .int .i64 0]) ?_ 8 _ rfl; (with_reducible repeat (first | refine blk_drewN ?_ _ | refine blk_drew ?_ | refine blk_alloc ?_ _)); refine blk_put (cs := #[.int .i64 ((rd_T38 l1 x10_1).f0), .slice A277_1 ((rd_T38 l1 x10_1).f1.f0).length c277_1, .slice A277_2 ((rd_T38 l1 x10_1).f1.f1).length c277_2, .int .i64 ((rd_T38 l1 x10_1).f1.f2), .int .i64 ((rd_T38 l1 x10_1).f1.f3), .int .i64 ((rd_T38 l1 x10_1).f1.f4), .int .i64 ((rd_T38 l1 x10_1).f1.f5), .bool false, .slice none 0 0, .slice none 0 0, .int .i64 0, .int .i64 0, .int .i64 0, .int .i64 0]) ?_ 7 _ rfl; (with_reducible repeat (first | refine blk_drewN ?_ _ | refine blk_drew ?_ | refine blk_alloc ?_ _)); refine blk_put (cs := #[.int .i64 ((rd_T38 l1 x10_1).f0), .slice A277_1 ((rd_T38 l1 x10_1).f1.f0).length c277_1, .slice A277_2 ((rd_T38 l1 x10_1).f1.f1).length c277_2, .int .i64 ((rd_T38 l1 x10_1).f1.f2), .int .i64 ((rd_T38 l1 x10_1).f1.f3), .int .i64 ((rd_T38 l1 x10_1).f1.f4), .int .i64 0, .bool false, .slice none 0 0, .slice none 0 0, .int .i64 0, .int .i64 0, .int .i64 0, .int .i64 0]) ?_ 6 _ rfl; (with_reducible repeat (first | refine blk_drewN ?_ _ | refine blk_drew ?_ | refine blk_alloc ?_ _)); refine blk_put (cs := #[.int .i64 ((rd_T38 l1 x10_1).f0), .slice A277_1 ((rd_T38 l1 x10_1).f1.f0).length c277_1, .slice A277_2 ((rd_T38 l1 x10_1).f1.f1).length c277_2, .int .i64 ((rd_T38 l1 x10_1).f1.f2), .int .i64 ((rd_T38 l1 x10_1).f1.f3), .int .i64 0, .int .i64 0, .bool false, .slice none 0 0, .slice none 0 0, .int .i64 0, .int .i64 0, .int .i64 0, .int .i64 0]) ?_ 5 _ rfl; (with_reducible repeat (first | refine blk_drewN ?_ _ | refine blk_drew ?_ | refine blk_alloc ?_ _)); refine blk_put (cs := #[.int .i64 ((rd_T38 l1 x10_1).f0), .slice A277_1 ((rd_T38 l1 x10_1).f1.f0).length c277_1, .slice A277_2 ((rd_T38 l1 x10_1).f1.f1).length c277_2, .int .i64 ((rd_T38 l1 x10_1).f1.f2), .int .i64 0, .int .i64 0, .int .i64 0, .bool false, .slice none 0 0, .slice none 0 0, .int .i64 0, .int .i64 0, .int .i64 0, .int .i64 0]) ?_ 4 _ rfl; (with_reducible repeat (first | refine blk_drewN ?_ _ | refine blk_drew ?_ | refine blk_alloc ?_ _)); refine blk_put (cs := #[.int .i64 ((rd_T38 l1 x10_1).f0), .slice A277_1 ((rd_T38 l1 x10_1).f1.f0).length c277_1, .slice A277_2 ((rd_T38 l1 x10_1).f1.f1).length c277_2, .int .i64 0, .int .i64 0, .int .i64 0, .int .i64 0, .bool false, .slice none 0 0, .slice none 0 0, .int .i64 0, .int .i64 0, .int .i64 0, .int .i64 0]) ?_ 3 _ rfl; (with_reducible repeat (first | refine blk_drewN ?_ _ | refine blk_drew ?_ | refine blk_alloc ?_ _)); refine blk_put (cs := #[.int .i64 ((rd_T38 l1 x10_1).f0), .slice A277_1 ((rd_T38 l1 x10_1).f1.f0).length c277_1, .slice none 0 0, .int .i64 0, .int .i64 0, .int .i64 0, .int .i64 0, .bool false, .slice none 0 0, .slice none 0 0, .int .i64 0, .int .i64 0, .int .i64 0, .int .i64 0]) ?_ 2 _ rfl; (with_reducible repeat (first | refine blk_drewN ?_ _ | refine blk_drew ?_ | refine blk_alloc ?_ _)); refine blk_put (cs := #[.int .i64 ((rd_T38 l1 x10_1).f0), .slice none 0 0, .slice none 0 0, .int .i64 0, .int .i64 0, .int .i64 0, .int .i64 0, .bool false, .slice none 0 0, .slice none 0 0, .int .i64 0, .int .i64 0, .int .i64 0, .int .i64 0]) ?_ 1 _ rfl; (with_reducible repeat (first | refine blk_drewN ?_ _ | refine blk_drew ?_ | refine blk_alloc ?_ _)); refine blk_put (cs := #[.int .i64 0, .slice none 0 0, .slice none 0 0, .int .i64 0, .int .i64 0, .int .i64 0, .int .i64 0, .bool false, .slice none 0 0, .slice none 0 0, .int .i64 0, .int .i64 0, .int .i64 0, .int .i64 0]) ?_ 0 _ rfl; (with_reducible repeat (first | refine blk_drewN ?_ _ | refine blk_drew ?_ | refine blk_alloc ?_ _)); exact BK278.out⟩, ⟨by repeat (first | (with_reducible first | exact HB.out | apply below_alloc | apply pw_below_drewN | apply below_drew1 | refine below_set ?_ GE276.out | refine below_set ?_ GE278.out) | exact HB.out | exact Below.refl _ _)⟩⟩
              · replace c12 := Bool.eq_false_iff.mpr c12
                subst c12
                have H1 : (batch_Sieve.j1 k1 x5_1 l1 (l1.length : Int) x10_1 true l0_0 l0_1 a0_2 a0_3 a0_4 a0_5 ((rd_T38 l1 x10_1).f0) ((rd_T38 l1 x10_1).f1.f0) ((rd_T38 l1 x10_1).f1.f1) ((rd_T38 l1 x10_1).f1.f2) ((rd_T38 l1 x10_1).f1.f3) ((rd_T38 l1 x10_1).f1.f4) ((rd_T38 l1 x10_1).f1.f5) ((rd_T38 l1 x10_1).f2) ((rd_T38 l1 x10_1).f3.f0) ((rd_T38 l1 x10_1).f3.f1) ((rd_T38 l1 x10_1).f3.f2) ((rd_T38 l1 x10_1).f3.f3) ((rd_T38 l1 x10_1).f3.f4) ((rd_T38 l1 x10_1).f3.f5)) = some r := by rw [if_neg (show ¬ (false = true) by decide)] at H; exact H
                clear H
                have H := H1
                clear H1
                have H' := Aside0.mk H
                clear H
                have hnb32 := NB278_276.out
                have hnc32 := NB276_278.out
                have hcz33_0 : w8.cell? ⟨gb278, 0, none⟩ = some (.int .i64 0) := (blk_cell BK278.out 0).trans rfl
                have hcz33_1 : w8.cell? ⟨gb278, 1, none⟩ = some (.slice none 0 0) := (blk_cell BK278.out 1).trans rfl
                have hcz33_2 : w8.cell? ⟨gb278, 2, none⟩ = some (.slice none 0 0) := (blk_cell BK278.out 2).trans rfl
                have hcz33_3 : w8.cell? ⟨gb278, 3, none⟩ = some (.int .i64 0) := (blk_cell BK278.out 3).trans rfl
                have hcz33_4 : w8.cell? ⟨gb278, 4, none⟩ = some (.int .i64 0) := (blk_cell BK278.out 4).trans rfl
                have hcz33_5 : w8.cell? ⟨gb278, 5, none⟩ = some (.int .i64 0) := (blk_cell BK278.out 5).trans rfl
                have hcz33_6 : w8.cell? ⟨gb278, 6, none⟩ = some (.int .i64 0) := (blk_cell BK278.out 6).trans rfl
                have hcz33_7 : w8.cell? ⟨gb278, 7, none⟩ = some (.bool false) := (blk_cell BK278.out 7).trans rfl
                have hcz33_8 : w8.cell? ⟨gb278, 8, none⟩ = some (.slice none 0 0) := (blk_cell BK278.out 8).trans rfl
                have hcz33_9 : w8.cell? ⟨gb278, 9, none⟩ = some (.slice none 0 0) := (blk_cell BK278.out 9).trans rfl
                have hcz33_10 : w8.cell? ⟨gb278, 10, none⟩ = some (.int .i64 0) := (blk_cell BK278.out 10).trans rfl
                have hcz33_11 : w8.cell? ⟨gb278, 11, none⟩ = some (.int .i64 0) := (blk_cell BK278.out 11).trans rfl
                have hcz33_12 : w8.cell? ⟨gb278, 12, none⟩ = some (.int .i64 0) := (blk_cell BK278.out 12).trans rfl
                have hcz33_13 : w8.cell? ⟨gb278, 13, none⟩ = some (.int .i64 0) := (blk_cell BK278.out 13).trans rfl
                have hfz33_0 := blk_frozen BK278.out 0
                have hfz33_1 := blk_frozen BK278.out 1
                have hfz33_2 := blk_frozen BK278.out 2
                have hfz33_3 := blk_frozen BK278.out 3
                have hfz33_4 := blk_frozen BK278.out 4
                have hfz33_5 := blk_frozen BK278.out 5
                have hfz33_6 := blk_frozen BK278.out 6
                have hfz33_7 := blk_frozen BK278.out 7
                have hfz33_8 := blk_frozen BK278.out 8
                have hfz33_9 := blk_frozen BK278.out 9
                have hfz33_10 := blk_frozen BK278.out 10
                have hfz33_11 := blk_frozen BK278.out 11
                have hfz33_12 := blk_frozen BK278.out 12
                have hfz33_13 := blk_frozen BK278.out 13
                have hcz34_0 : w8.cell? ⟨gb276, 0, none⟩ = some (.slice A0_0 l0_0.length c0_0) := (blk_cell BK276.out 0).trans rfl
                have hcz34_1 : w8.cell? ⟨gb276, 1, none⟩ = some (.slice A0_1 l0_1.length c0_1) := (blk_cell BK276.out 1).trans rfl
                have hcz34_2 : w8.cell? ⟨gb276, 2, none⟩ = some (.int .i64 a0_2) := (blk_cell BK276.out 2).trans rfl
                have hcz34_3 : w8.cell? ⟨gb276, 3, none⟩ = some (.bool a0_3) := (blk_cell BK276.out 3).trans rfl
                have hcz34_4 : w8.cell? ⟨gb276, 4, none⟩ = some (.bool a0_4) := (blk_cell BK276.out 4).trans rfl
                have hcz34_5 : w8.cell? ⟨gb276, 5, none⟩ = some (.bool a0_5) := (blk_cell BK276.out 5).trans rfl
                have hfz34_0 := blk_frozen BK276.out 0
                have hfz34_1 := blk_frozen BK276.out 1
                have hfz34_2 := blk_frozen BK276.out 2
                have hfz34_3 := blk_frozen BK276.out 3
                have hfz34_4 := blk_frozen BK276.out 4
                have hfz34_5 := blk_frozen BK276.out 5
                go_wp2_with (first | ((with_reducible refine gate_callee (f := 24) rfl ?_); refine goesL_ (some 21) rfl rfl Try.func24 (by kernel_rfl) rfl #[.slice A277_1 ((rd_T38 l1 x10_1).f1.f0).length c277_1, .slice A0_0 l0_0.length c0_0, .slice A0_1 l0_1.length c0_1] rfl (by (try simp only [List.map_toArray, List.map_cons, List.map_nil]); first | done | rfl | (simp only [List.length_drop, List.length_take]; rfl)) ?_; (with_reducible refine (octets_In.calls k1 _ _ ((rd_T38 l1 x10_1).f1.f0) _ _ l0_0 _ _ l0_1 false _ ?side1 ?side2 ?side3 ?side4 ?side5 ?side6 A11.out).mono ?_); (case side1 => exact Kd.C_below HR277_1.out (by repeat (first | (with_reducible first | exact HB.out | apply below_alloc | apply pw_below_drewN | apply below_drew1 | refine below_set ?_ GE276.out | refine below_set ?_ GE278.out) | exact HB.out | exact Below.refl _ _))); (case side2 => exact HC277_1.out); (case side3 => exact Kd.C_below HR0_0.out (by repeat (first | (with_reducible first | exact HB.out | apply below_alloc | apply pw_below_drewN | apply below_drew1 | refine below_set ?_ GE276.out | refine below_set ?_ GE278.out) | exact HB.out | exact Below.refl _ _))); (case side4 => exact HC0_0.out); (case side5 => exact Kd.C_below HR0_1.out (by repeat (first | (with_reducible first | exact HB.out | apply below_alloc | apply pw_below_drewN | apply below_drew1 | refine below_set ?_ GE276.out | refine below_set ?_ GE278.out) | exact HB.out | exact Below.refl _ _))); (case side6 => exact HC0_1.out); rintro e w' ⟨rfl, ⟨nd, rfl⟩⟩; refine ⟨_, rfl, ?_⟩))
                go_meet
                case rel => exact ⟨_, (true), (by first | rfl | (simp; done) | (simp [*]; done)), H', ⟨by have := HK1.out; first | omega | exact Nat.le_refl _⟩, ⟨by (with_reducible repeat (first | apply Kd.S_alloc | apply Kd.S_drewN | apply Kd.S_drew)); exact Kd.S_mono (Kd.S_far (p := ⟨gb278, 13, none⟩) (Kd.S_far (p := ⟨gb278, 12, none⟩) (Kd.S_far (p := ⟨gb278, 11, none⟩) (Kd.S_far (p := ⟨gb278, 10, none⟩) (Kd.S_far (p := ⟨gb278, 9, none⟩) (Kd.S_far (p := ⟨gb278, 8, none⟩) (Kd.S_far (p := ⟨gb278, 7, none⟩) (Kd.S_far (p := ⟨gb278, 6, none⟩) (Kd.S_far (p := ⟨gb278, 5, none⟩) (Kd.S_far (p := ⟨gb278, 4, none⟩) (Kd.S_far (p := ⟨gb278, 3, none⟩) (Kd.S_far (p := ⟨gb278, 2, none⟩) (Kd.S_far (p := ⟨gb278, 1, none⟩) (Kd.S_far (p := ⟨gb278, 0, none⟩) (Kd.S_mono HO_5.out (fun k_ hk => (⟨hk, hk.2⟩ : _ ∧ k_ ≠ gb278))) (fun _ hk => hk.2) (.int .i64 ((rd_T38 l1 x10_1).f0))) (fun _ hk => hk.2) (.slice A277_1 ((rd_T38 l1 x10_1).f1.f0).length c277_1)) (fun _ hk => hk.2) (.slice A277_2 ((rd_T38 l1 x10_1).f1.f1).length c277_2)) (fun _ hk => hk.2) (.int .i64 ((rd_T38 l1 x10_1).f1.f2))) (fun _ hk => hk.2) (.int .i64 ((rd_T38 l1 x10_1).f1.f3))) (fun _ hk => hk.2) (.int .i64 ((rd_T38 l1 x10_1).f1.f4))) (fun _ hk => hk.2) (.int .i64 ((rd_T38 l1 x10_1).f1.f5))) (fun _ hk => hk.2) (.bool ((rd_T38 l1 x10_1).f2))) (fun _ hk => hk.2) (.slice A277_8 ((rd_T38 l1 x10_1).f3.f0).length c277_8)) (fun _ hk => hk.2) (.slice A277_9 ((rd_T38 l1 x10_1).f3.f1).length c277_9)) (fun _ hk => hk.2) (.int .i64 ((rd_T38 l1 x10_1).f3.f2))) (fun _ hk => hk.2) (.int .i64 ((rd_T38 l1 x10_1).f3.f3))) (fun _ hk => hk.2) (.int .i64 ((rd_T38 l1 x10_1).f3.f4))) (fun _ hk => hk.2) (.int .i64 ((rd_T38 l1 x10_1).f3.f5))) (fun _ hk => hk.1.2)⟩, ⟨by (with_reducible repeat (first | refine blk_drewN ?_ _ | refine blk_drew ?_ | refine blk_alloc ?_ _)); refine blk_far ?_ NB276_278.out _; (with_reducible repeat (first | refine blk_drewN ?_ _ | refine blk_drew ?_ | refine blk_alloc ?_ _)); refine blk_far ?_ NB276_278.out _; (with_reducible repeat (first | refine blk_drewN ?_ _ | refine blk_drew ?_ | refine blk_alloc ?_ _)); refine blk_far ?_ NB276_278.out _; (with_reducible repeat (first | refine blk_drewN ?_ _ | refine blk_drew ?_ | refine blk_alloc ?_ _)); refine blk_far ?_ NB276_278.out _; (with_reducible repeat (first | refine blk_drewN ?_ _ | refine blk_drew ?_ | refine blk_alloc ?_ _)); refine blk_far ?_ NB276_278.out _; (with_reducible repeat (first | refine blk_drewN ?_ _ | refine blk_drew ?_ | refine blk_alloc ?_ _)); refine blk_far ?_ NB276_278.out _; (with_reducible repeat (first | refine blk_drewN ?_ _ | refine blk_drew ?_ | refine blk_alloc ?_ _)); refine blk_far ?_ NB276_278.out _; (with_reducible repeat (first | refine blk_drewN ?_ _ | refine blk_drew ?_ | refine blk_alloc ?_ _)); refine blk_far ?_ NB276_278.out _; (with_reducible repeat (first | refine blk_drewN ?_ _ | refine blk_drew ?_ | refine blk_alloc ?_ _)); refine blk_far ?_ NB276_278.out _; (with_reducible repeat (first | refine blk_drewN ?_ _ | refine blk_drew ?_ | refine blk_alloc ?_ _)); refine blk_far ?_ NB276_278.out _; (with_reducible repeat (first | refine blk_drewN ?_ _ | refine blk_drew ?_ | refine blk_alloc ?_ _)); refine blk_far ?_ NB276_278.out _; (with_reducible repeat (first | refine blk_drewN ?_ _ | refine blk_drew ?_ | refine blk_alloc ?_ _)); refine blk_far ?_ NB276_278.out _; (with_reducible repeat (first | refine blk_drewN ?_ _ | refine blk_drew ?_ | refine blk_alloc ?_ _)); refine blk_far ?_ NB276_278.out _; (with_reducible repeat (first | refine blk_drewN ?_ _ | refine blk_drew ?_ | refine blk_alloc ?_ _)); refine blk_far ?_ NB276_278.out _; (with_reducible repeat (first | refine blk_drewN ?_ _ | refine blk_drew ?_ | refine blk_alloc ?_ _)); exact BK276.out⟩, ⟨by (with_reducible repeat (first | refine blk_drewN ?_ _ | refine blk_drew ?_ | refine blk_alloc ?_ _)); refine blk_put (cs := #[.int .i64 ((rd_T38 l1 x10_1).f0), .slice A277_1 ((rd_T38 l1 x10_1).f1.f0).length c277_1, .slice A277_2 ((rd_T38 l1 x10_1).f1.f1).length c277_2, .int .i64 ((rd_T38 l1 x10_1).f1.f2), .int .i64 ((rd_T38 l1 x10_1).f1.f3), .int .i64 ((rd_T38 l1 x10_1).f1.f4), .int .i64 ((rd_T38 l1 x10_1).f1.f5), .bool ((rd_T38 l1 x10_1).f2), .slice A277_8 ((rd_T38 l1 x10_1).f3.f0).length c277_8, .slice A277_9 ((rd_T38 l1 x10_1).f3.f1).length c277_9, .int .i64 ((rd_T38 l1 x10_1).f3.f2), .int .i64 ((rd_T38 l1 x10_1).f3.f3), .int .i64 ((rd_T38 l1 x10_1).f3.f4), .int .i64 0]) ?_ 13 _ rfl; (with_reducible repeat (first | refine blk_drewN ?_ _ | refine blk_drew ?_ | refine blk_alloc ?_ _)); refine blk_put (cs := #[.int .i64 ((rd_T38 l1 x10_1).f0), .slice A277_1 ((rd_T38 l1 x10_1).f1.f0).length c277_1, .slice A277_2 ((rd_T38 l1 x10_1).f1.f1).length c277_2, .int .i64 ((rd_T38 l1 x10_1).f1.f2), .int .i64 ((rd_T38 l1 x10_1).f1.f3), .int .i64 ((rd_T38 l1 x10_1).f1.f4), .int .i64 ((rd_T38 l1 x10_1).f1.f5), .bool ((rd_T38 l1 x10_1).f2), .slice A277_8 ((rd_T38 l1 x10_1).f3.f0).length c277_8, .slice A277_9 ((rd_T38 l1 x10_1).f3.f1).length c277_9, .int .i64 ((rd_T38 l1 x10_1).f3.f2), .int .i64 ((rd_T38 l1 x10_1).f3.f3), .int .i64 0, .int .i64 0]) ?_ 12 _ rfl; (with_reducible repeat (first | refine blk_drewN ?_ _ | refine blk_drew ?_ | refine blk_alloc ?_ _)); refine blk_put (cs := #[.int .i64 ((rd_T38 l1 x10_1).f0), .slice A277_1 ((rd_T38 l1 x10_1).f1.f0).length c277_1, .slice A277_2 ((rd_T38 l1 x10_1).f1.f1).length c277_2, .int .i64 ((rd_T38 l1 x10_1).f1.f2), .int .i64 ((rd_T38 l1 x10_1).f1.f3), .int .i64 ((rd_T38 l1 x10_1).f1.f4), .int .i64 ((rd_T38 l1 x10_1).f1.f5), .bool ((rd_T38 l1 x10_1).f2), .slice A277_8 ((rd_T38 l1 x10_1).f3.f0).length c277_8, .slice A277_9 ((rd_T38 l1 x10_1).f3.f1).length c277_9, .int .i64 ((rd_T38 l1 x10_1).f3.f2), .int .i64 0, .int .i64 0, .int .i64 0]) ?_ 11 _ rfl; (with_reducible repeat (first | refine blk_drewN ?_ _ | refine blk_drew ?_ | refine blk_alloc ?_ _)); refine blk_put (cs := #[.int .i64 ((rd_T38 l1 x10_1).f0), .slice A277_1 ((rd_T38 l1 x10_1).f1.f0).length c277_1, .slice A277_2 ((rd_T38 l1 x10_1).f1.f1).length c277_2, .int .i64 ((rd_T38 l1 x10_1).f1.f2), .int .i64 ((rd_T38 l1 x10_1).f1.f3), .int .i64 ((rd_T38 l1 x10_1).f1.f4), .int .i64 ((rd_T38 l1 x10_1).f1.f5), .bool ((rd_T38 l1 x10_1).f2), .slice A277_8 ((rd_T38 l1 x10_1).f3.f0).length c277_8, .slice A277_9 ((rd_T38 l1 x10_1).f3.f1).length c277_9, .int .i64 0, .int .i64 0, .int .i64 0, .int .i64 0]) ?_ 10 _ rfl; (with_reducible repeat (first | refine blk_drewN ?_ _ | refine blk_drew ?_ | refine blk_alloc ?_ _)); refine blk_put (cs := #[.int .i64 ((rd_T38 l1 x10_1).f0), .slice A277_1 ((rd_T38 l1 x10_1).f1.f0).length c277_1, .slice A277_2 ((rd_T38 l1 x10_1).f1.f1).length c277_2, .int .i64 ((rd_T38 l1 x10_1).f1.f2), .int .i64 ((rd_T38 l1 x10_1).f1.f3), .int .i64 ((rd_T38 l1 x10_1).f1.f4), .int .i64 ((rd_T38 l1 x10_1).f1.f5), .bool ((rd_T38 l1 x10_1).f2), .slice A277_8 ((rd_T38 l1 x10_1).f3.f0).length c277_8, .slice none 0 0, .int .i64 0, .int .i64 0, .int .i64 0, .int .i64 0]) ?_ 9 _ rfl; (with_reducible repeat (first | refine blk_drewN ?_ _ | refine blk_drew ?_ | refine blk_alloc ?_ _)); refine blk_put (cs := #[.int .i64 ((rd_T38 l1 x10_1).f0), .slice A277_1 ((rd_T38 l1 x10_1).f1.f0).length c277_1, .slice A277_2 ((rd_T38 l1 x10_1).f1.f1).length c277_2, .int .i64 ((rd_T38 l1 x10_1).f1.f2), .int .i64 ((rd_T38 l1 x10_1).f1.f3), .int .i64 ((rd_T38 l1 x10_1).f1.f4), .int .i64 ((rd_T38 l1 x10_1).f1.f5), .bool ((rd_T38 l1 x10_1).f2), .slice none 0 0, .slice none 0 0, .int .i64 0, .int .i64 0, .int .i64 0, .int .i64 0]) ?_ 8 _ rfl; (with_reducible repeat (first | refine blk_drewN ?_ _ | refine blk_drew ?_ | refine blk_alloc ?_ _)); refine blk_put (cs := #[.int .i64 ((rd_T38 l1 x10_1).f0), .slice A277_1 ((rd_T38 l1 x10_1).f1.f0).length c277_1, .slice A277_2 ((rd_T38 l1 x10_1).f1.f1).length c277_2, .int .i64 ((rd_T38 l1 x10_1).f1.f2), .int .i64 ((rd_T38 l1 x10_1).f1.f3), .int .i64 ((rd_T38 l1 x10_1).f1.f4), .int .i64 ((rd_T38 l1 x10_1).f1.f5), .bool false, .slice none 0 0, .slice none 0 0, .int .i64 0, .int .i64 0, .int .i64 0, .int .i64 0]) ?_ 7 _ rfl; (with_reducible repeat (first | refine blk_drewN ?_ _ | refine blk_drew ?_ | refine blk_alloc ?_ _)); refine blk_put (cs := #[.int .i64 ((rd_T38 l1 x10_1).f0), .slice A277_1 ((rd_T38 l1 x10_1).f1.f0).length c277_1, .slice A277_2 ((rd_T38 l1 x10_1).f1.f1).length c277_2, .int .i64 ((rd_T38 l1 x10_1).f1.f2), .int .i64 ((rd_T38 l1 x10_1).f1.f3), .int .i64 ((rd_T38 l1 x10_1).f1.f4), .int .i64 0, .bool false, .slice none 0 0, .slice none 0 0, .int .i64 0, .int .i64 0, .int .i64 0, .int .i64 0]) ?_ 6 _ rfl; (with_reducible repeat (first | refine blk_drewN ?_ _ | refine blk_drew ?_ | refine blk_alloc ?_ _)); refine blk_put (cs := #[.int .i64 ((rd_T38 l1 x10_1).f0), .slice A277_1 ((rd_T38 l1 x10_1).f1.f0).length c277_1, .slice A277_2 ((rd_T38 l1 x10_1).f1.f1).length c277_2, .int .i64 ((rd_T38 l1 x10_1).f1.f2), .int .i64 ((rd_T38 l1 x10_1).f1.f3), .int .i64 0, .int .i64 0, .bool false, .slice none 0 0, .slice none 0 0, .int .i64 0, .int .i64 0, .int .i64 0, .int .i64 0]) ?_ 5 _ rfl; (with_reducible repeat (first | refine blk_drewN ?_ _ | refine blk_drew ?_ | refine blk_alloc ?_ _)); refine blk_put (cs := #[.int .i64 ((rd_T38 l1 x10_1).f0), .slice A277_1 ((rd_T38 l1 x10_1).f1.f0).length c277_1, .slice A277_2 ((rd_T38 l1 x10_1).f1.f1).length c277_2, .int .i64 ((rd_T38 l1 x10_1).f1.f2), .int .i64 0, .int .i64 0, .int .i64 0, .bool false, .slice none 0 0, .slice none 0 0, .int .i64 0, .int .i64 0, .int .i64 0, .int .i64 0]) ?_ 4 _ rfl; (with_reducible repeat (first | refine blk_drewN ?_ _ | refine blk_drew ?_ | refine blk_alloc ?_ _)); refine blk_put (cs := #[.int .i64 ((rd_T38 l1 x10_1).f0), .slice A277_1 ((rd_T38 l1 x10_1).f1.f0).length c277_1, .slice A277_2 ((rd_T38 l1 x10_1).f1.f1).length c277_2, .int .i64 0, .int .i64 0, .int .i64 0, .int .i64 0, .bool false, .slice none 0 0, .slice none 0 0, .int .i64 0, .int .i64 0, .int .i64 0, .int .i64 0]) ?_ 3 _ rfl; (with_reducible repeat (first | refine blk_drewN ?_ _ | refine blk_drew ?_ | refine blk_alloc ?_ _)); refine blk_put (cs := #[.int .i64 ((rd_T38 l1 x10_1).f0), .slice A277_1 ((rd_T38 l1 x10_1).f1.f0).length c277_1, .slice none 0 0, .int .i64 0, .int .i64 0, .int .i64 0, .int .i64 0, .bool false, .slice none 0 0, .slice none 0 0, .int .i64 0, .int .i64 0, .int .i64 0, .int .i64 0]) ?_ 2 _ rfl; (with_reducible repeat (first | refine blk_drewN ?_ _ | refine blk_drew ?_ | refine blk_alloc ?_ _)); refine blk_put (cs := #[.int .i64 ((rd_T38 l1 x10_1).f0), .slice none 0 0, .slice none 0 0, .int .i64 0, .int .i64 0, .int .i64 0, .int .i64 0, .bool false, .slice none 0 0, .slice none 0 0, .int .i64 0, .int .i64 0, .int .i64 0, .int .i64 0]) ?_ 1 _ rfl; (with_reducible repeat (first | refine blk_drewN ?_ _ | refine blk_drew ?_ | refine blk_alloc ?_ _)); refine blk_put (cs := #[.int .i64 0, .slice none 0 0, .slice none 0 0, .int .i64 0, .int .i64 0, .int .i64 0, .int .i64 0, .bool false, .slice none 0 0, .slice none 0 0, .int .i64 0, .int .i64 0, .int .i64 0, .int .i64 0]) ?_ 0 _ rfl; (with_reducible repeat (first | refine blk_drewN ?_ _ | refine blk_drew ?_ | refine blk_alloc ?_ _)); exact BK278.out⟩, ⟨by repeat (first | (with_reducible first | exact HB.out | apply below_alloc | apply pw_below_drewN | apply below_drew1 | refine below_set ?_ GE276.out | refine below_set ?_ GE278.out) | exact HB.out | exact Below.refl _ _)⟩⟩
            case rest =>
              clear HC7
              try clear c1
              try clear c2
              try clear p2
              try clear q2
              try clear hx2
              try clear c3
              try clear c4
              try clear c4b0
              try clear c5
              try clear c5b0
              try clear c6
              try clear c6b0
              try clear c9
              try clear c12
              try clear c13
              try clear c13b0
              try clear c13b1
              try clear c14
              try clear c15
              try clear c18
              try clear c18b0
              try clear c18b1
              try clear c19
              try clear c22
              try clear c24
              try clear c25
              try clear c25b0
              try clear c25b1
              try clear c26
              try clear c27
              try clear p27
              try clear q27
              try clear hx27
              try clear c29
              try clear c32
              try clear hcz10_0
              try clear hcz10_1
              try clear hcz10_10
              try clear hcz10_11
              try clear hcz10_12
              try clear hcz10_13
              try clear hcz10_2
              try clear hcz10_3
              try clear hcz10_4
              try clear hcz10_5
              try clear hcz10_6
              try clear hcz10_7
              try clear hcz10_8
              try clear hcz10_9
              try clear hcz16_0
              try clear hcz16_1
              try clear hcz16_10
              try clear hcz16_11
              try clear hcz16_12
              try clear hcz16_13
              try clear hcz16_2
              try clear hcz16_3
              try clear hcz16_4
              try clear hcz16_5
              try clear hcz16_6
              try clear hcz16_7
              try clear hcz16_8
              try clear hcz16_9
              try clear hcz17_0
              try clear hcz17_1
              try clear hcz17_2
              try clear hcz17_3
              try clear hcz17_4
              try clear hcz17_5
              try clear hcz20_0
              try clear hcz20_1
              try clear hcz20_10
              try clear hcz20_11
              try clear hcz20_12
              try clear hcz20_13
              try clear hcz20_2
              try clear hcz20_3
              try clear hcz20_4
              try clear hcz20_5
              try clear hcz20_6
              try clear hcz20_7
              try clear hcz20_8
              try clear hcz20_9
              try clear hcz21_0
              try clear hcz21_1
              try clear hcz21_2
              try clear hcz21_3
              try clear hcz21_4
              try clear hcz21_5
              try clear hcz23_0
              try clear hcz23_1
              try clear hcz23_10
              try clear hcz23_11
              try clear hcz23_12
              try clear hcz23_13
              try clear hcz23_2
              try clear hcz23_3
              try clear hcz23_4
              try clear hcz23_5
              try clear hcz23_6
              try clear hcz23_7
              try clear hcz23_8
              try clear hcz23_9
              try clear hcz24_0
              try clear hcz24_1
              try clear hcz24_2
              try clear hcz24_3
              try clear hcz24_4
              try clear hcz24_5
              try clear hcz27_0
              try clear hcz27_1
              try clear hcz27_10
              try clear hcz27_11
              try clear hcz27_12
              try clear hcz27_13
              try clear hcz27_2
              try clear hcz27_3
              try clear hcz27_4
              try clear hcz27_5
              try clear hcz27_6
              try clear hcz27_7
              try clear hcz27_8
              try clear hcz27_9
              try clear hcz28_0
              try clear hcz28_1
              try clear hcz28_2
              try clear hcz28_3
              try clear hcz28_4
              try clear hcz28_5
              try clear hcz30_0
              try clear hcz30_1
              try clear hcz30_10
              try clear hcz30_11
              try clear hcz30_12
              try clear hcz30_13
              try clear hcz30_2
              try clear hcz30_3
              try clear hcz30_4
              try clear hcz30_5
              try clear hcz30_6
              try clear hcz30_7
              try clear hcz30_8
              try clear hcz30_9
              try clear hcz31_0
              try clear hcz31_1
              try clear hcz31_2
              try clear hcz31_3
              try clear hcz31_4
              try clear hcz31_5
              try clear hcz33_0
              try clear hcz33_1
              try clear hcz33_10
              try clear hcz33_11
              try clear hcz33_12
              try clear hcz33_13
              try clear hcz33_2
              try clear hcz33_3
              try clear hcz33_4
              try clear hcz33_5
              try clear hcz33_6
              try clear hcz33_7
              try clear hcz33_8
              try clear hcz33_9
              try clear hcz34_0
              try clear hcz34_1
              try clear hcz34_2
              try clear hcz34_3
              try clear hcz34_4
              try clear hcz34_5
              try clear hfz10_0
              try clear hfz10_1
              try clear hfz10_10
              try clear hfz10_11
              try clear hfz10_12
              try clear hfz10_13
              try clear hfz10_2
              try clear hfz10_3
              try clear hfz10_4
              try clear hfz10_5
              try clear hfz10_6
              try clear hfz10_7
              try clear hfz10_8
              try clear hfz10_9
              try clear hfz16_0
              try clear hfz16_1
              try clear hfz16_10
              try clear hfz16_11
              try clear hfz16_12
              try clear hfz16_13
              try clear hfz16_2
              try clear hfz16_3
              try clear hfz16_4
              try clear hfz16_5
              try clear hfz16_6
              try clear hfz16_7
              try clear hfz16_8
              try clear hfz16_9
              try clear hfz17_0
              try clear hfz17_1
              try clear hfz17_2
              try clear hfz17_3
              try clear hfz17_4
              try clear hfz17_5
              try clear hfz20_0
              try clear hfz20_1
              try clear hfz20_10
              try clear hfz20_11
              try clear hfz20_12
              try clear hfz20_13
              try clear hfz20_2
              try clear hfz20_3
              try clear hfz20_4
              try clear hfz20_5
              try clear hfz20_6
              try clear hfz20_7
              try clear hfz20_8
              try clear hfz20_9
              try clear hfz21_0
              try clear hfz21_1
              try clear hfz21_2
              try clear hfz21_3
              try clear hfz21_4
              try clear hfz21_5
              try clear hfz23_0
              try clear hfz23_1
              try clear hfz23_10
              try clear hfz23_11
              try clear hfz23_12
              try clear hfz23_13
              try clear hfz23_2
              try clear hfz23_3
              try clear hfz23_4
              try clear hfz23_5
              try clear hfz23_6
              try clear hfz23_7
              try clear hfz23_8
              try clear hfz23_9
              try clear hfz24_0
              try clear hfz24_1
              try clear hfz24_2
              try clear hfz24_3
              try clear hfz24_4
              try clear hfz24_5
              try clear hfz27_0
              try clear hfz27_1
              try clear hfz27_10
              try clear hfz27_11
              try clear hfz27_12
              try clear hfz27_13
              try clear hfz27_2
              try clear hfz27_3
              try clear hfz27_4
              try clear hfz27_5
              try clear hfz27_6
              try clear hfz27_7
              try clear hfz27_8
              try clear hfz27_9
              try clear hfz28_0
              try clear hfz28_1
              try clear hfz28_2
              try clear hfz28_3
              try clear hfz28_4
              try clear hfz28_5
              try clear hfz30_0
              try clear hfz30_1
              try clear hfz30_10
              try clear hfz30_11
              try clear hfz30_12
              try clear hfz30_13
              try clear hfz30_2
              try clear hfz30_3
              try clear hfz30_4
              try clear hfz30_5
              try clear hfz30_6
              try clear hfz30_7
              try clear hfz30_8
              try clear hfz30_9
              try clear hfz31_0
              try clear hfz31_1
              try clear hfz31_2
              try clear hfz31_3
              try clear hfz31_4
              try clear hfz31_5
              try clear hfz33_0
              try clear hfz33_1
              try clear hfz33_10
              try clear hfz33_11
              try clear hfz33_12
              try clear hfz33_13
              try clear hfz33_2
              try clear hfz33_3
              try clear hfz33_4
              try clear hfz33_5
              try clear hfz33_6
              try clear hfz33_7
              try clear hfz33_8
              try clear hfz33_9
              try clear hfz34_0
              try clear hfz34_1
              try clear hfz34_2
              try clear hfz34_3
              try clear hfz34_4
              try clear hfz34_5
              try clear hx277_0
              try clear hx277_1
              try clear hx277_10
              try clear hx277_11
              try clear hx277_12
              try clear hx277_13
              try clear hx277_2
              try clear hx277_3
              try clear hx277_4
              try clear hx277_5
              try clear hx277_6
              try clear hx277_7
              try clear hx277_8
              try clear hx277_9
              try clear p2
              try clear p277
              try clear q277
              obtain ⟨kq, x40_6, rfl, HA, HJ6, HO_5, BK276, BK278, HB⟩ := hcut
              cases kq with
              | zero => exact absurd HA.out (by simp [batch_Sieve.j1])
              | succ kj6 =>
                have H := HA.out
                clear HA
                simp only [batch_Sieve.j1] at H
                by_cases c35 : x40_6 = true
                · subst c35
                  have H1 : (batch_Sieve.l0 kj6 x5_1 l1 (l1.length : Int) (wrap64 (x10_1 + 1)) l0_0 l0_1 a0_2 a0_3 a0_4 a0_5) = some r := by rw [if_pos rfl] at H; exact H
                  clear H
                  have H := H1
                  clear H1
                  have H' := Aside0.mk H
                  clear H
                  go_wp2
                  go_roundg kj6
                  case measure => have := HK1.out; have := HJ6.out; omega
                  case rel => exact ⟨(x5_1), (wrap64 (x10_1 + 1)), (by first | rfl | (simp; done) | (simp [*]; done)), H', ⟨by have := HK1.out; have := HJ6.out; omega⟩, ⟨by (with_reducible repeat (first | apply Kd.S_alloc | apply Kd.S_drewN | apply Kd.S_drew)); exact Kd.S_mono HO_5.out (fun _ hk => trivial)⟩, ⟨by (with_reducible repeat (first | refine blk_drewN ?_ _ | refine blk_drew ?_ | refine blk_alloc ?_ _)); exact BK276.out⟩, ⟨by repeat (first | (with_reducible first | exact HB.out | apply below_alloc | apply pw_below_drewN | apply below_drew1 | refine below_set ?_ GE276.out | refine below_set ?_ GE278.out) | exact HB.out | exact Below.refl _ _)⟩⟩
                · replace c35 := Bool.eq_false_iff.mpr c35
                  subst c35
                  have H1 : (if a0_5 = true then ((batch_twin.f ((rd_T38 l1 x10_1).f0) ((rd_T38 l1 x10_1).f1.f0) ((rd_T38 l1 x10_1).f1.f1) ((rd_T38 l1 x10_1).f1.f2) ((rd_T38 l1 x10_1).f1.f3) ((rd_T38 l1 x10_1).f1.f4) ((rd_T38 l1 x10_1).f1.f5) ((rd_T38 l1 x10_1).f2) ((rd_T38 l1 x10_1).f3.f0) ((rd_T38 l1 x10_1).f3.f1) ((rd_T38 l1 x10_1).f3.f2) ((rd_T38 l1 x10_1).f3.f3) ((rd_T38 l1 x10_1).f3.f4) ((rd_T38 l1 x10_1).f3.f5)).bind fun bt280 => (if x5_1.length < 799644820200 then (batch_Sieve.l0 kj6 (x5_1 ++ [(⟨bt280.1, (⟨bt280.2.1, bt280.2.2.1, bt280.2.2.2.1, bt280.2.2.2.2.1, bt280.2.2.2.2.2.1, bt280.2.2.2.2.2.2.1⟩ : S36), bt280.2.2.2.2.2.2.2.1, (⟨bt280.2.2.2.2.2.2.2.2.1, bt280.2.2.2.2.2.2.2.2.2.1, bt280.2.2.2.2.2.2.2.2.2.2.1, bt280.2.2.2.2.2.2.2.2.2.2.2.1, bt280.2.2.2.2.2.2.2.2.2.2.2.2.1, bt280.2.2.2.2.2.2.2.2.2.2.2.2.2⟩ : S36)⟩ : S38)]) l1 (l1.length : Int) (wrap64 (x10_1 + 1)) l0_0 l0_1 a0_2 a0_3 a0_4 a0_5) else (none))) else ((batch_twin.f ((rd_T38 l1 x10_1).f0) ((rd_T38 l1 x10_1).f1.f0) ((rd_T38 l1 x10_1).f1.f1) ((rd_T38 l1 x10_1).f1.f2) ((rd_T38 l1 x10_1).f1.f3) ((rd_T38 l1 x10_1).f1.f4) ((rd_T38 l1 x10_1).f1.f5) false ([] : List Int) ([] : List Int) 0 0 0 0).bind fun bt305 => (if x5_1.length < 799644820200 then (batch_Sieve.l0 kj6 (x5_1 ++ [(⟨bt305.1, (⟨bt305.2.1, bt305.2.2.1, bt305.2.2.2.1, bt305.2.2.2.2.1, bt305.2.2.2.2.2.1, bt305.2.2.2.2.2.2.1⟩ : S36), bt305.2.2.2.2.2.2.2.1, (⟨bt305.2.2.2.2.2.2.2.2.1, bt305.2.2.2.2.2.2.2.2.2.1, bt305.2.2.2.2.2.2.2.2.2.2.1, bt305.2.2.2.2.2.2.2.2.2.2.2.1, bt305.2.2.2.2.2.2.2.2.2.2.2.2.1, bt305.2.2.2.2.2.2.2.2.2.2.2.2.2⟩ : S36)⟩ : S38)]) l1 (l1.length : Int) (wrap64 (x10_1 + 1)) l0_0 l0_1 a0_2 a0_3 a0_4 a0_5) else (none)))) = some r := by rw [if_neg (show ¬ (false = true) by decide)] at H; exact H
                  clear H
                  have H := H1
                  clear H1
                  by_cases c36 : a0_5 = true
                  · subst c36
                    have H1 : ((batch_twin.f ((rd_T38 l1 x10_1).f0) ((rd_T38 l1 x10_1).f1.f0) ((rd_T38 l1 x10_1).f1.f1) ((rd_T38 l1 x10_1).f1.f2) ((rd_T38 l1 x10_1).f1.f3) ((rd_T38 l1 x10_1).f1.f4) ((rd_T38 l1 x10_1).f1.f5) ((rd_T38 l1 x10_1).f2) ((rd_T38 l1 x10_1).f3.f0) ((rd_T38 l1 x10_1).f3.f1) ((rd_T38 l1 x10_1).f3.f2) ((rd_T38 l1 x10_1).f3.f3) ((rd_T38 l1 x10_1).f3.f4) ((rd_T38 l1 x10_1).f3.f5)).bind fun bt280 => (if x5_1.length < 799644820200 then (batch_Sieve.l0 kj6 (x5_1 ++ [(⟨bt280.1, (⟨bt280.2.1, bt280.2.2.1, bt280.2.2.2.1, bt280.2.2.2.2.1, bt280.2.2.2.2.2.1, bt280.2.2.2.2.2.2.1⟩ : S36), bt280.2.2.2.2.2.2.2.1, (⟨bt280.2.2.2.2.2.2.2.2.1, bt280.2.2.2.2.2.2.2.2.2.1, bt280.2.2.2.2.2.2.2.2.2.2.1, bt280.2.2.2.2.2.2.2.2.2.2.2.1, bt280.2.2.2.2.2.2.2.2.2.2.2.2.1, bt280.2.2.2.2.2.2.2.2.2.2.2.2.2⟩ : S36)⟩ : S38)]) l1 (l1.length : Int) (wrap64 (x10_1 + 1)) l0_0 l0_1 a0_2 a0_3 a0_4 true) else (none))) = some r := by rw [if_pos rfl] at H; exact H
                    clear H
                    have H := H1
                    clear H1
                    replace H := Option.bind_eq_some_iff.mp H
                    obtain ⟨⟨t280, t281, t284, t287, t288, t289, t290, t291, t292, t295, t298, t299, t300, t301⟩, A370, H⟩ := H
                    replace H : (if x5_1.length < 799644820200 then (batch_Sieve.l0 kj6 (x5_1 ++ [(⟨t280, (⟨t281, t284, t287, t288, t289, t290⟩ : S36), t291, (⟨t292, t295, t298, t299, t300, t301⟩ : S36)⟩ : S38)]) l1 (l1.length : Int) (wrap64 (x10_1 + 1)) l0_0 l0_1 a0_2 a0_3 a0_4 true) else (none)) = some r := H
                    have A37 := Aside0.mk A370
                    clear A370
                    by_cases c38 : x5_1.length < 799644820200
                    · rw [if_pos c38] at H
                      have LMc38 := Aside0.mk c38
                      clear c38
                      obtain ⟨y302, hy302⟩ : ∃ y_ : List (S38), y_ = (x5_1 ++ [(⟨t280, (⟨t281, t284, t287, t288, t289, t290⟩ : S36), t291, (⟨t292, t295, t298, t299, t300, t301⟩ : S36)⟩ : S38)]) := ⟨_, rfl⟩
                      replace H : (batch_Sieve.l0 kj6 y302 l1 (l1.length : Int) (wrap64 (x10_1 + 1)) l0_0 l0_1 a0_2 a0_3 a0_4 true) = some r := by first | (rw [hy302]; with_reducible exact H) | (have H2_ := (Option.bind_some _ _).symm.trans H; rw [hy302]; with_reducible exact H2_) | (have H2_ := (Option.bind_some _ _).symm.trans H; with_reducible exact H2_) | with_reducible exact H | (rw [hy302]; exact H) | exact H
                      have Ny302 := Aside0.mk hy302
                      clear hy302
                      have H' := Aside0.mk H
                      clear H
                      have hnb39 := NB276_278.out
                      have hnc39 := NB278_276.out
                      have hcz40_0 : wc.cell? ⟨gb276, 0, none⟩ = some (.slice A0_0 l0_0.length c0_0) := (blk_cell BK276.out 0).trans rfl
                      have hcz40_1 : wc.cell? ⟨gb276, 1, none⟩ = some (.slice A0_1 l0_1.length c0_1) := (blk_cell BK276.out 1).trans rfl
                      have hcz40_2 : wc.cell? ⟨gb276, 2, none⟩ = some (.int .i64 a0_2) := (blk_cell BK276.out 2).trans rfl
                      have hcz40_3 : wc.cell? ⟨gb276, 3, none⟩ = some (.bool a0_3) := (blk_cell BK276.out 3).trans rfl
                      have hcz40_4 : wc.cell? ⟨gb276, 4, none⟩ = some (.bool a0_4) := (blk_cell BK276.out 4).trans rfl
                      have hcz40_5 : wc.cell? ⟨gb276, 5, none⟩ = some (.bool true) := (blk_cell BK276.out 5).trans rfl
                      have hfz40_0 := blk_frozen BK276.out 0
                      have hfz40_1 := blk_frozen BK276.out 1
                      have hfz40_2 := blk_frozen BK276.out 2
                      have hfz40_3 := blk_frozen BK276.out 3
                      have hfz40_4 := blk_frozen BK276.out 4
                      have hfz40_5 := blk_frozen BK276.out 5
                      have hcz41_0 : wc.cell? ⟨gb278, 0, none⟩ = some (.int .i64 ((rd_T38 l1 x10_1).f0)) := (blk_cell BK278.out 0).trans rfl
                      have hcz41_1 : wc.cell? ⟨gb278, 1, none⟩ = some (.slice A277_1 ((rd_T38 l1 x10_1).f1.f0).length c277_1) := (blk_cell BK278.out 1).trans rfl
                      have hcz41_2 : wc.cell? ⟨gb278, 2, none⟩ = some (.slice A277_2 ((rd_T38 l1 x10_1).f1.f1).length c277_2) := (blk_cell BK278.out 2).trans rfl
                      have hcz41_3 : wc.cell? ⟨gb278, 3, none⟩ = some (.int .i64 ((rd_T38 l1 x10_1).f1.f2)) := (blk_cell BK278.out 3).trans rfl
                      have hcz41_4 : wc.cell? ⟨gb278, 4, none⟩ = some (.int .i64 ((rd_T38 l1 x10_1).f1.f3)) := (blk_cell BK278.out 4).trans rfl
                      have hcz41_5 : wc.cell? ⟨gb278, 5, none⟩ = some (.int .i64 ((rd_T38 l1 x10_1).f1.f4)) := (blk_cell BK278.out 5).trans rfl
                      have hcz41_6 : wc.cell? ⟨gb278, 6, none⟩ = some (.int .i64 ((rd_T38 l1 x10_1).f1.f5)) := (blk_cell BK278.out 6).trans rfl
                      have hcz41_7 : wc.cell? ⟨gb278, 7, none⟩ = some (.bool ((rd_T38 l1 x10_1).f2)) := (blk_cell BK278.out 7).trans rfl
                      have hcz41_8 : wc.cell? ⟨gb278, 8, none⟩ = some (.slice A277_8 ((rd_T38 l1 x10_1).f3.f0).length c277_8) := (blk_cell BK278.out 8).trans rfl
                      have hcz41_9 : wc.cell? ⟨gb278, 9, none⟩ = some (.slice A277_9 ((rd_T38 l1 x10_1).f3.f1).length c277_9) := (blk_cell BK278.out 9).trans rfl
                      have hcz41_10 : wc.cell? ⟨gb278, 10, none⟩ = some (.int .i64 ((rd_T38 l1 x10_1).f3.f2)) := (blk_cell BK278.out 10).trans rfl
                      have hcz41_11 : wc.cell? ⟨gb278, 11, none⟩ = some (.int .i64 ((rd_T38 l1 x10_1).f3.f3)) := (blk_cell BK278.out 11).trans rfl
                      have hcz41_12 : wc.cell? ⟨gb278, 12, none⟩ = some (.int .i64 ((rd_T38 l1 x10_1).f3.f4)) := (blk_cell BK278.out 12).trans rfl
                      have hcz41_13 : wc.cell? ⟨gb278, 13, none⟩ = some (.int .i64 ((rd_T38 l1 x10_1).f3.f5)) := (blk_cell BK278.out 13).trans rfl
                      have hfz41_0 := blk_frozen BK278.out 0
                      have hfz41_1 := blk_frozen BK278.out 1
                      have hfz41_2 := blk_frozen BK278.out 2
                      have hfz41_3 := blk_frozen BK278.out 3
                      have hfz41_4 := blk_frozen BK278.out 4
                      have hfz41_5 := blk_frozen BK278.out 5
                      have hfz41_6 := blk_frozen BK278.out 6
                      have hfz41_7 := blk_frozen BK278.out 7
                      have hfz41_8 := blk_frozen BK278.out 8
                      have hfz41_9 := blk_frozen BK278.out 9
                      have hfz41_10 := blk_frozen BK278.out 10
                      have hfz41_11 := blk_frozen BK278.out 11
                      have hfz41_12 := blk_frozen BK278.out 12
                      have hfz41_13 := blk_frozen BK278.out 13
                      go_wp2_with (first | ((with_reducible refine gate_callee (f := 25) rfl ?_); refine goesL_ (some 49) rfl rfl Try.func25 (by kernel_rfl) rfl #[.agg #[.int .i64 ((rd_T38 l1 x10_1).f0), .slice A277_1 ((rd_T38 l1 x10_1).f1.f0).length c277_1, .slice A277_2 ((rd_T38 l1 x10_1).f1.f1).length c277_2, .int .i64 ((rd_T38 l1 x10_1).f1.f2), .int .i64 ((rd_T38 l1 x10_1).f1.f3), .int .i64 ((rd_T38 l1 x10_1).f1.f4), .int .i64 ((rd_T38 l1 x10_1).f1.f5), .bool ((rd_T38 l1 x10_1).f2), .slice A277_8 ((rd_T38 l1 x10_1).f3.f0).length c277_8, .slice A277_9 ((rd_T38 l1 x10_1).f3.f1).length c277_9, .int .i64 ((rd_T38 l1 x10_1).f3.f2), .int .i64 ((rd_T38 l1 x10_1).f3.f3), .int .i64 ((rd_T38 l1 x10_1).f3.f4), .int .i64 ((rd_T38 l1 x10_1).f3.f5)]] rfl (by (try simp only [List.map_toArray, List.map_cons, List.map_nil]); first | done | rfl | (simp only [List.length_drop, List.length_take]; rfl)) ?_; (with_reducible refine (batch_twin.calls ((rd_T38 l1 x10_1).f0) _ _ ((rd_T38 l1 x10_1).f1.f0) _ _ ((rd_T38 l1 x10_1).f1.f1) ((rd_T38 l1 x10_1).f1.f2) ((rd_T38 l1 x10_1).f1.f3) ((rd_T38 l1 x10_1).f1.f4) ((rd_T38 l1 x10_1).f1.f5) ((rd_T38 l1 x10_1).f2) _ _ ((rd_T38 l1 x10_1).f3.f0) _ _ ((rd_T38 l1 x10_1).f3.f1) ((rd_T38 l1 x10_1).f3.f2) ((rd_T38 l1 x10_1).f3.f3) ((rd_T38 l1 x10_1).f3.f4) ((rd_T38 l1 x10_1).f3.f5) t280 t281 t284 t287 t288 t289 t290 t291 t292 t295 t298 t299 t300 t301 _ ?side1 ?side2 ?side3 ?side4 ?side5 ?side6 ?side7 ?side8 A37.out).mono ?_); (case side1 => repeat (first | exact (Kd.C_below HR277_1.out HB.out) | exact HR277_1.out | (with_reducible refine Kd.C_alloc ?_ _) | (with_reducible refine Kd.C_drewN ?_ _) | (with_reducible refine Kd.C_drew ?_))); (case side2 => exact HC277_1.out); (case side3 => repeat (first | exact (Kd.C_below HR277_2.out HB.out) | exact HR277_2.out | (with_reducible refine Kd.C_alloc ?_ _) | (with_reducible refine Kd.C_drewN ?_ _) | (with_reducible refine Kd.C_drew ?_))); (case side4 => exact HC277_2.out); (case side5 => repeat (first | exact (Kd.C_below HR277_8.out HB.out) | exact HR277_8.out | (with_reducible refine Kd.C_alloc ?_ _) | (with_reducible refine Kd.C_drewN ?_ _) | (with_reducible refine Kd.C_drew ?_))); (case side6 => exact HC277_8.out); (case side7 => repeat (first | exact (Kd.C_below HR277_9.out HB.out) | exact HR277_9.out | (with_reducible refine Kd.C_alloc ?_ _) | (with_reducible refine Kd.C_drewN ?_ _) | (with_reducible refine Kd.C_drew ?_))); (case side8 => exact HC277_9.out); rintro e w42 ⟨v282, v285, v293, v296, rfl, ho0, ho1, ho2, ho3, hb⟩; refine ⟨_, rfl, ?_⟩; have n0_ := Aside0.mk (Kd.S_mono (Kd.S_told (Kd.S_told (Kd.S_told (Kd.S_told (Kd.S_old (by (with_reducible repeat (first | apply Kd.S_alloc | apply Kd.S_drewN | apply Kd.S_drew)); exact HO_5.out) hb) (Kd.R_base ho0)) (Kd.R_base ho1)) (Kd.R_base ho2)) (Kd.R_base ho3)) (fun _ h_ => h_.1)); have n1_ := Aside0.mk (Kd.R_lower ho0 (below_size (by repeat (first | (with_reducible first | exact HB.out | apply below_alloc | apply pw_below_drewN | apply below_drew1 | refine below_set ?_ GE276.out | refine below_set ?_ GE278.out) | exact HB.out | exact Below.refl _ _)))); have n2_ := Aside0.mk (Kd.R_lower ho1 (below_size (by repeat (first | (with_reducible first | exact HB.out | apply below_alloc | apply pw_below_drewN | apply below_drew1 | refine below_set ?_ GE276.out | refine below_set ?_ GE278.out) | exact HB.out | exact Below.refl _ _)))); have n3_ := Aside0.mk (Kd.R_lower ho2 (below_size (by repeat (first | (with_reducible first | exact HB.out | apply below_alloc | apply pw_below_drewN | apply below_drew1 | refine below_set ?_ GE276.out | refine below_set ?_ GE278.out) | exact HB.out | exact Below.refl _ _)))); have n4_ := Aside0.mk (Kd.R_lower ho3 (below_size (by repeat (first | (with_reducible first | exact HB.out | apply below_alloc | apply pw_below_drewN | apply below_drew1 | refine below_set ?_ GE276.out | refine below_set ?_ GE278.out) | exact HB.out | exact Below.refl _ _)))); have n5_ := Aside0.mk (blk_below (g := gb276) (o := .cells #[.slice A0_0 l0_0.length c0_0, .slice A0_1 l0_1.length c0_1, .int .i64 a0_2, .bool a0_3, .bool a0_4, .bool true] 28 (0, 0)) (by (with_reducible repeat (first | refine blk_drewN ?_ _ | refine blk_drew ?_ | refine blk_alloc ?_ _)); exact BK276.out) hb); have n6_ := Aside0.mk (blk_below (g := gb278) (o := .cells #[.int .i64 ((rd_T38 l1 x10_1).f0), .slice A277_1 ((rd_T38 l1 x10_1).f1.f0).length c277_1, .slice A277_2 ((rd_T38 l1 x10_1).f1.f1).length c277_2, .int .i64 ((rd_T38 l1 x10_1).f1.f2), .int .i64 ((rd_T38 l1 x10_1).f1.f3), .int .i64 ((rd_T38 l1 x10_1).f1.f4), .int .i64 ((rd_T38 l1 x10_1).f1.f5), .bool ((rd_T38 l1 x10_1).f2), .slice A277_8 ((rd_T38 l1 x10_1).f3.f0).length c277_8, .slice A277_9 ((rd_T38 l1 x10_1).f3.f1).length c277_9, .int .i64 ((rd_T38 l1 x10_1).f3.f2), .int .i64 ((rd_T38 l1 x10_1).f3.f3), .int .i64 ((rd_T38 l1 x10_1).f3.f4), .int .i64 ((rd_T38 l1 x10_1).f3.f5)] 38 (0, 0)) (by (with_reducible repeat (first | refine blk_drewN ?_ _ | refine blk_drew ?_ | refine blk_alloc ?_ _)); exact BK278.out) hb); have n7_ := Aside0.mk (below_step (by repeat (first | (with_reducible first | exact HB.out | apply below_alloc | apply pw_below_drewN | apply below_drew1 | refine below_set ?_ GE276.out | refine below_set ?_ GE278.out) | exact HB.out | exact Below.refl _ _)) hb); clear HO_5; clear BK276; clear BK278; clear HB; have HO_5 := n0_; have HO283 := n1_; have HO286 := n2_; have HO294 := n3_; have HO297 := n4_; have BK276 := n5_; have BK278 := n6_; have HB := n7_; clear n0_ n1_ n2_ n3_ n4_ n5_ n6_ n7_; (try clear hb); (try clear hb2); (try clear hk); (try clear hi); (try clear ho0); (try clear ho1); (try clear ho2); (try clear ho3); obtain ⟨Ao44, co44, eo44⟩ := Kd.R_slice HO283.out; subst eo44; obtain ⟨Ao45, co45, eo45⟩ := Kd.R_slice HO286.out; subst eo45; obtain ⟨Ao46, co46, eo46⟩ := Kd.R_slice HO294.out; subst eo46; obtain ⟨Ao47, co47, eo47⟩ := Kd.R_slice HO297.out; subst eo47) | ((with_reducible refine gate_builtin (b := .append) (xs := #[.tmp 47, .tmp 50]) rfl ?_); at_builtin; refine Kd.S_append k38 (w0 := w) w.heap.size rfl (.tmp 47) (.tmp 50) 22 38 (.agg #[(.int .i64 0), (.slice none 0 0), (.slice none 0 0), (.int .i64 0), (.int .i64 0), (.int .i64 0), (.int .i64 0), (.bool false), (.slice none 0 0), (.slice none 0 0), (.int .i64 0), (.int .i64 0), (.int .i64 0), (.int .i64 0)]) 176 rfl Try.underlying22 info38 rfl (by decide) (by omega) u5 x5_1 (⟨t280, (⟨t281, t284, t287, t288, t289, t290⟩ : S36), t291, (⟨t292, t295, t298, t299, t300, t301⟩ : S36)⟩ : S38) [.int .i64 t280, .slice Ao44 t281.length co44, .slice Ao45 t284.length co45, .int .i64 t287, .int .i64 t288, .int .i64 t289, .int .i64 t290, .bool t291, .slice Ao46 t292.length co46, .slice Ao47 t295.length co47, .int .i64 t298, .int .i64 t299, .int .i64 t300, .int .i64 t301] (fun k_ => k_ ≠ gb278) (fun k_ => some k_ = (.slice Ao44 t281.length co44 : Value).ownBlock ∨ some k_ = (.slice Ao45 t284.length co45 : Value).ownBlock ∨ some k_ = (.slice Ao46 t292.length co46 : Value).ownBlock ∨ some k_ = (.slice Ao47 t295.length co47 : Value).ownBlock) rfl rfl ?aP (fun k_ hk_ => hk_.elim (fun h_ => ((Kd.R_mono (ok' := fun k_ => ((fun k_ => k_ ≠ gb278)) k_ ∧ some k_ ≠ (u5 : Value).ownBlock) (Kd.R_types (Kd.R_apart' (HO283.out) (Kd.S_typed HO_5.out) (by decide)) BK278.out (by decide)) (fun k_ hk => ⟨hk.2, hk.1.2⟩))).1 k_ h_.symm) (fun h_ => h_.elim (fun h_ => ((Kd.R_mono (ok' := fun k_ => ((fun k_ => k_ ≠ gb278)) k_ ∧ some k_ ≠ (u5 : Value).ownBlock) (Kd.R_types (Kd.R_apart' (HO286.out) (Kd.S_typed HO_5.out) (by decide)) BK278.out (by decide)) (fun k_ hk => ⟨hk.2, hk.1.2⟩))).1 k_ h_.symm) (fun h_ => h_.elim (fun h_ => ((Kd.R_mono (ok' := fun k_ => ((fun k_ => k_ ≠ gb278)) k_ ∧ some k_ ≠ (u5 : Value).ownBlock) (Kd.R_types (Kd.R_apart' (HO294.out) (Kd.S_typed HO_5.out) (by decide)) BK278.out (by decide)) (fun k_ hk => ⟨hk.2, hk.1.2⟩))).1 k_ h_.symm) (fun h_ => ((Kd.R_mono (ok' := fun k_ => ((fun k_ => k_ ≠ gb278)) k_ ∧ some k_ ≠ (u5 : Value).ownBlock) (Kd.R_types (Kd.R_apart' (HO297.out) (Kd.S_typed HO_5.out) (by decide)) BK278.out (by decide)) (fun k_ hk => ⟨hk.2, hk.1.2⟩))).1 k_ h_.symm)))) ?aF ?aO ?aB ?aS ?aL ?_; (case aP => exact k38_mkM _ _ _ (⟨t280, (⟨t281, t284, t287, t288, t289, t290⟩ : S36), t291, (⟨t292, t295, t298, t299, t300, t301⟩ : S36)⟩ : S38) (Kd.R_mono (Kd.R_tight rfl (Kd.R_mono (ok' := fun k_ => ((fun k_ => k_ ≠ gb278)) k_ ∧ some k_ ≠ (u5 : Value).ownBlock) (Kd.R_types (Kd.R_apart' (HO283.out) (Kd.S_typed HO_5.out) (by decide)) BK278.out (by decide)) (fun k_ hk => ⟨hk.2, hk.1.2⟩))) (fun _ h_ => Or.inl h_)) (Kd.R_mono (Kd.R_tight rfl (Kd.R_mono (ok' := fun k_ => ((fun k_ => k_ ≠ gb278)) k_ ∧ some k_ ≠ (u5 : Value).ownBlock) (Kd.R_types (Kd.R_apart' (HO286.out) (Kd.S_typed HO_5.out) (by decide)) BK278.out (by decide)) (fun k_ hk => ⟨hk.2, hk.1.2⟩))) (fun _ h_ => Or.inr (Or.inl h_))) (Kd.R_mono (Kd.R_tight rfl (Kd.R_mono (ok' := fun k_ => ((fun k_ => k_ ≠ gb278)) k_ ∧ some k_ ≠ (u5 : Value).ownBlock) (Kd.R_types (Kd.R_apart' (HO294.out) (Kd.S_typed HO_5.out) (by decide)) BK278.out (by decide)) (fun k_ hk => ⟨hk.2, hk.1.2⟩))) (fun _ h_ => Or.inr (Or.inr (Or.inl h_)))) (Kd.R_mono (Kd.R_tight rfl (Kd.R_mono (ok' := fun k_ => ((fun k_ => k_ ≠ gb278)) k_ ∧ some k_ ≠ (u5 : Value).ownBlock) (Kd.R_types (Kd.R_apart' (HO297.out) (Kd.S_typed HO_5.out) (by decide)) BK278.out (by decide)) (fun k_ hk => ⟨hk.2, hk.1.2⟩))) (fun _ h_ => Or.inr (Or.inr (Or.inr (h_)))))); (case aB => exact (by repeat (first | (with_reducible first | exact HB.out | apply below_alloc | apply pw_below_drewN | apply below_drew1 | refine below_set ?_ GE276.out | refine below_set ?_ GE278.out) | exact HB.out | exact Below.refl _ _))); (case aF => exact (fun k_ hk => Kd.freshB (g := gb278) (o := .cells #[.int .i64 ((rd_T38 l1 x10_1).f0), .slice A277_1 ((rd_T38 l1 x10_1).f1.f0).length c277_1, .slice A277_2 ((rd_T38 l1 x10_1).f1.f1).length c277_2, .int .i64 ((rd_T38 l1 x10_1).f1.f2), .int .i64 ((rd_T38 l1 x10_1).f1.f3), .int .i64 ((rd_T38 l1 x10_1).f1.f4), .int .i64 ((rd_T38 l1 x10_1).f1.f5), .bool ((rd_T38 l1 x10_1).f2), .slice A277_8 ((rd_T38 l1 x10_1).f3.f0).length c277_8, .slice A277_9 ((rd_T38 l1 x10_1).f3.f1).length c277_9, .int .i64 ((rd_T38 l1 x10_1).f3.f2), .int .i64 ((rd_T38 l1 x10_1).f3.f3), .int .i64 ((rd_T38 l1 x10_1).f3.f4), .int .i64 ((rd_T38 l1 x10_1).f3.f5)] 38 (0, 0)) (by (with_reducible repeat (first | refine blk_drewN ?_ _ | refine blk_drew ?_ | refine blk_alloc ?_ _)); exact BK278.out) k_ hk)); (case aO => exact (by (with_reducible repeat (first | apply Kd.S_alloc | apply Kd.S_drewN | apply Kd.S_drew)); exact Kd.S_mono HO_5.out (fun k_ hk => ⟨hk.1.1.1.1, fun e_ => e_.elim (fun h_ => hk.1.1.1.2 h_) (fun h_ => h_.elim (fun h_ => hk.1.1.2 h_) (fun h_ => h_.elim (fun h_ => hk.1.2 h_) (fun h_ => hk.2 h_)))⟩))); (case aS => exact (below_size (by repeat (first | (with_reducible first | exact HB.out | apply below_alloc | apply pw_below_drewN | apply below_drew1 | refine below_set ?_ GE276.out | refine below_set ?_ GE278.out) | exact HB.out | exact Below.refl _ _)))); (case aL => have := LMc38.out; omega); intro v303 w43 ho hb hg hat; rw [← Ny302.out] at ho; have n0_ := Aside0.mk (blk_grown (g := gb276) (o := .cells #[.slice A0_0 l0_0.length c0_0, .slice A0_1 l0_1.length c0_1, .int .i64 a0_2, .bool a0_3, .bool a0_4, .bool true] 28 (0, 0)) (by (with_reducible repeat (first | refine blk_drewN ?_ _ | refine blk_drew ?_ | refine blk_alloc ?_ _)); exact BK276.out) hg (Kd.S_ne HO_5.out BK276.out (by decide))); have n1_ := Aside0.mk (blk_grown (g := gb278) (o := .cells #[.int .i64 ((rd_T38 l1 x10_1).f0), .slice A277_1 ((rd_T38 l1 x10_1).f1.f0).length c277_1, .slice A277_2 ((rd_T38 l1 x10_1).f1.f1).length c277_2, .int .i64 ((rd_T38 l1 x10_1).f1.f2), .int .i64 ((rd_T38 l1 x10_1).f1.f3), .int .i64 ((rd_T38 l1 x10_1).f1.f4), .int .i64 ((rd_T38 l1 x10_1).f1.f5), .bool ((rd_T38 l1 x10_1).f2), .slice A277_8 ((rd_T38 l1 x10_1).f3.f0).length c277_8, .slice A277_9 ((rd_T38 l1 x10_1).f3.f1).length c277_9, .int .i64 ((rd_T38 l1 x10_1).f3.f2), .int .i64 ((rd_T38 l1 x10_1).f3.f3), .int .i64 ((rd_T38 l1 x10_1).f3.f4), .int .i64 ((rd_T38 l1 x10_1).f3.f5)] 38 (0, 0)) (by (with_reducible repeat (first | refine blk_drewN ?_ _ | refine blk_drew ?_ | refine blk_alloc ?_ _)); exact BK278.out) hg (Kd.S_away HO_5.out (fun _ hk => hk.1.1.1.1))); have n2_ := Aside0.mk (hb); have n3_ := Aside0.mk (ho); clear BK276; clear BK278; clear HB; clear HO_5; clear HO283; clear HO286; clear HO294; clear HO297; have BK276 := n0_; have BK278 := n1_; have HB := n2_; have HO304 := n3_; clear n0_ n1_ n2_ n3_; clear ho hb hg hat))
                      go_roundg kj6
                      case measure => have := HK1.out; have := HJ6.out; omega
                      case rel => exact ⟨(y302), (wrap64 (x10_1 + 1)), (by first | rfl | (simp; done) | (simp [*]; done)), H', ⟨by have := HK1.out; have := HJ6.out; omega⟩, ⟨by (with_reducible repeat (first | apply Kd.S_alloc | apply Kd.S_drewN | apply Kd.S_drew)); exact Kd.S_mono HO304.out (fun _ hk => trivial)⟩, ⟨by (with_reducible repeat (first | refine blk_drewN ?_ _ | refine blk_drew ?_ | refine blk_alloc ?_ _)); exact BK276.out⟩, ⟨by repeat (first | (with_reducible first | exact HB.out | apply below_alloc | apply pw_below_drewN | apply below_drew1 | refine below_set ?_ GE276.out | refine below_set ?_ GE278.out) | exact HB.out | exact Below.refl _ _)⟩⟩
                    · rw [if_neg c38] at H
                      exact absurd H (by simp)
                  · replace c36 := Bool.eq_false_iff.mpr c36
                    subst c36
                    have H1 : ((batch_twin.f ((rd_T38 l1 x10_1).f0) ((rd_T38 l1 x10_1).f1.f0) ((rd_T38 l1 x10_1).f1.f1) ((rd_T38 l1 x10_1).f1.f2) ((rd_T38 l1 x10_1).f1.f3) ((rd_T38 l1 x10_1).f1.f4) ((rd_T38 l1 x10_1).f1.f5) false ([] : List Int) ([] : List Int) 0 0 0 0).bind fun bt305 => (if x5_1.length < 799644820200 then (batch_Sieve.l0 kj6 (x5_1 ++ [(⟨bt305.1, (⟨bt305.2.1, bt305.2.2.1, bt305.2.2.2.1, bt305.2.2.2.2.1, bt305.2.2.2.2.2.1, bt305.2.2.2.2.2.2.1⟩ : S36), bt305.2.2.2.2.2.2.2.1, (⟨bt305.2.2.2.2.2.2.2.2.1, bt305.2.2.2.2.2.2.2.2.2.1, bt305.2.2.2.2.2.2.2.2.2.2.1, bt305.2.2.2.2.2.2.2.2.2.2.2.1, bt305.2.2.2.2.2.2.2.2.2.2.2.2.1, bt305.2.2.2.2.2.2.2.2.2.2.2.2.2⟩ : S36)⟩ : S38)]) l1 (l1.length : Int) (wrap64 (x10_1 + 1)) l0_0 l0_1 a0_2 a0_3 a0_4 false) else (none))) = some r := by rw [if_neg (show ¬ (false = true) by decide)] at H; exact H
                    clear H
                    have H := H1
                    clear H1
                    replace H := Option.bind_eq_some_iff.mp H
                    obtain ⟨⟨t305, t306, t309, t312, t313, t314, t315, t316, t317, t320, t323, t324, t325, t326⟩, A480, H⟩ := H
                    replace H : (if x5_1.length < 799644820200 then (batch_Sieve.l0 kj6 (x5_1 ++ [(⟨t305, (⟨t306, t309, t312, t313, t314, t315⟩ : S36), t316, (⟨t317, t320, t323, t324, t325, t326⟩ : S36)⟩ : S38)]) l1 (l1.length : Int) (wrap64 (x10_1 + 1)) l0_0 l0_1 a0_2 a0_3 a0_4 false) else (none)) = some r := H
                    have A48 := Aside0.mk A480
                    clear A480
                    by_cases c49 : x5_1.length < 799644820200
                    · rw [if_pos c49] at H
                      have LMc49 := Aside0.mk c49
                      clear c49
                      obtain ⟨y327, hy327⟩ : ∃ y_ : List (S38), y_ = (x5_1 ++ [(⟨t305, (⟨t306, t309, t312, t313, t314, t315⟩ : S36), t316, (⟨t317, t320, t323, t324, t325, t326⟩ : S36)⟩ : S38)]) := ⟨_, rfl⟩
                      replace H : (batch_Sieve.l0 kj6 y327 l1 (l1.length : Int) (wrap64 (x10_1 + 1)) l0_0 l0_1 a0_2 a0_3 a0_4 false) = some r := by first | (rw [hy327]; with_reducible exact H) | (have H2_ := (Option.bind_some _ _).symm.trans H; rw [hy327]; with_reducible exact H2_) | (have H2_ := (Option.bind_some _ _).symm.trans H; with_reducible exact H2_) | with_reducible exact H | (rw [hy327]; exact H) | exact H
                      have Ny327 := Aside0.mk hy327
                      clear hy327
                      have H' := Aside0.mk H
                      clear H
                      have hnb50 := NB276_278.out
                      have hnc50 := NB278_276.out
                      have hcz51_0 : wc.cell? ⟨gb276, 0, none⟩ = some (.slice A0_0 l0_0.length c0_0) := (blk_cell BK276.out 0).trans rfl
                      have hcz51_1 : wc.cell? ⟨gb276, 1, none⟩ = some (.slice A0_1 l0_1.length c0_1) := (blk_cell BK276.out 1).trans rfl
                      have hcz51_2 : wc.cell? ⟨gb276, 2, none⟩ = some (.int .i64 a0_2) := (blk_cell BK276.out 2).trans rfl
                      have hcz51_3 : wc.cell? ⟨gb276, 3, none⟩ = some (.bool a0_3) := (blk_cell BK276.out 3).trans rfl
                      have hcz51_4 : wc.cell? ⟨gb276, 4, none⟩ = some (.bool a0_4) := (blk_cell BK276.out 4).trans rfl
                      have hcz51_5 : wc.cell? ⟨gb276, 5, none⟩ = some (.bool false) := (blk_cell BK276.out 5).trans rfl
                      have hfz51_0 := blk_frozen BK276.out 0
                      have hfz51_1 := blk_frozen BK276.out 1
                      have hfz51_2 := blk_frozen BK276.out 2
                      have hfz51_3 := blk_frozen BK276.out 3
                      have hfz51_4 := blk_frozen BK276.out 4
                      have hfz51_5 := blk_frozen BK276.out 5
                      have hcz52_0 : wc.cell? ⟨gb278, 0, none⟩ = some (.int .i64 ((rd_T38 l1 x10_1).f0)) := (blk_cell BK278.out 0).trans rfl
                      have hcz52_1 : wc.cell? ⟨gb278, 1, none⟩ = some (.slice A277_1 ((rd_T38 l1 x10_1).f1.f0).length c277_1) := (blk_cell BK278.out 1).trans rfl
                      have hcz52_2 : wc.cell? ⟨gb278, 2, none⟩ = some (.slice A277_2 ((rd_T38 l1 x10_1).f1.f1).length c277_2) := (blk_cell BK278.out 2).trans rfl
                      have hcz52_3 : wc.cell? ⟨gb278, 3, none⟩ = some (.int .i64 ((rd_T38 l1 x10_1).f1.f2)) := (blk_cell BK278.out 3).trans rfl
                      have hcz52_4 : wc.cell? ⟨gb278, 4, none⟩ = some (.int .i64 ((rd_T38 l1 x10_1).f1.f3)) := (blk_cell BK278.out 4).trans rfl
                      have hcz52_5 : wc.cell? ⟨gb278, 5, none⟩ = some (.int .i64 ((rd_T38 l1 x10_1).f1.f4)) := (blk_cell BK278.out 5).trans rfl
                      have hcz52_6 : wc.cell? ⟨gb278, 6, none⟩ = some (.int .i64 ((rd_T38 l1 x10_1).f1.f5)) := (blk_cell BK278.out 6).trans rfl
                      have hcz52_7 : wc.cell? ⟨gb278, 7, none⟩ = some (.bool ((rd_T38 l1 x10_1).f2)) := (blk_cell BK278.out 7).trans rfl
                      have hcz52_8 : wc.cell? ⟨gb278, 8, none⟩ = some (.slice A277_8 ((rd_T38 l1 x10_1).f3.f0).length c277_8) := (blk_cell BK278.out 8).trans rfl
                      have hcz52_9 : wc.cell? ⟨gb278, 9, none⟩ = some (.slice A277_9 ((rd_T38 l1 x10_1).f3.f1).length c277_9) := (blk_cell BK278.out 9).trans rfl
                      have hcz52_10 : wc.cell? ⟨gb278, 10, none⟩ = some (.int .i64 ((rd_T38 l1 x10_1).f3.f2)) := (blk_cell BK278.out 10).trans rfl
                      have hcz52_11 : wc.cell? ⟨gb278, 11, none⟩ = some (.int .i64 ((rd_T38 l1 x10_1).f3.f3)) := (blk_cell BK278.out 11).trans rfl
                      have hcz52_12 : wc.cell? ⟨gb278, 12, none⟩ = some (.int .i64 ((rd_T38 l1 x10_1).f3.f4)) := (blk_cell BK278.out 12).trans rfl
                      have hcz52_13 : wc.cell? ⟨gb278, 13, none⟩ = some (.int .i64 ((rd_T38 l1 x10_1).f3.f5)) := (blk_cell BK278.out 13).trans rfl
                      have hfz52_0 := blk_frozen BK278.out 0
                      have hfz52_1 := blk_frozen BK278.out 1
                      have hfz52_2 := blk_frozen BK278.out 2
                      have hfz52_3 := blk_frozen BK278.out 3
                      have hfz52_4 := blk_frozen BK278.out 4
                      have hfz52_5 := blk_frozen BK278.out 5
                      have hfz52_6 := blk_frozen BK278.out 6
                      have hfz52_7 := blk_frozen BK278.out 7
                      have hfz52_8 := blk_frozen BK278.out 8
                      have hfz52_9 := blk_frozen BK278.out 9
                      have hfz52_10 := blk_frozen BK278.out 10
                      have hfz52_11 := blk_frozen BK278.out 11
                      have hfz52_12 := blk_frozen BK278.out 12
                      have hfz52_13 := blk_frozen BK278.out 13
                      go_wp2_with (first | ((with_reducible refine gate_callee (f := 25) rfl ?_); refine goesL_ (some 49) rfl rfl Try.func25 (by kernel_rfl) rfl #[.agg #[.int .i64 ((rd_T38 l1 x10_1).f0), .slice A277_1 ((rd_T38 l1 x10_1).f1.f0).length c277_1, .slice A277_2 ((rd_T38 l1 x10_1).f1.f1).length c277_2, .int .i64 ((rd_T38 l1 x10_1).f1.f2), .int .i64 ((rd_T38 l1 x10_1).f1.f3), .int .i64 ((rd_T38 l1 x10_1).f1.f4), .int .i64 ((rd_T38 l1 x10_1).f1.f5), .bool false, .slice none 0 0, .slice none 0 0, .int .i64 0, .int .i64 0, .int .i64 0, .int .i64 0]] rfl (by (try simp only [List.map_toArray, List.map_cons, List.map_nil]); first | done | rfl | (simp only [List.length_drop, List.length_take]; rfl)) ?_; (refine (batch_twin.calls ((rd_T38 l1 x10_1).f0) _ _ ((rd_T38 l1 x10_1).f1.f0) _ _ ((rd_T38 l1 x10_1).f1.f1) ((rd_T38 l1 x10_1).f1.f2) ((rd_T38 l1 x10_1).f1.f3) ((rd_T38 l1 x10_1).f1.f4) ((rd_T38 l1 x10_1).f1.f5) false _ _ ([] : List Int) _ _ ([] : List Int) 0 0 0 0 t305 t306 t309 t312 t313 t314 t315 t316 t317 t320 t323 t324 t325 t326 _ ?side1 ?side2 ?side3 ?side4 ?side5 ?side6 ?side7 ?side8 A48.out).mono ?_); (case side1 => exact Kd.C_below HR277_1.out (by repeat (first | (with_reducible first | exact HB.out | apply below_alloc | apply pw_below_drewN | apply below_drew1 | refine below_set ?_ GE276.out | refine below_set ?_ GE278.out) | exact HB.out | exact Below.refl _ _))); (case side2 => exact HC277_1.out); (case side3 => exact Kd.C_below HR277_2.out (by repeat (first | (with_reducible first | exact HB.out | apply below_alloc | apply pw_below_drewN | apply below_drew1 | refine below_set ?_ GE276.out | refine below_set ?_ GE278.out) | exact HB.out | exact Below.refl _ _))); (case side4 => exact HC277_2.out); (case side5 => exact Kd.C_nil _ _); (case side6 => exact Nat.le_refl _); (case side7 => exact Kd.C_nil _ _); (case side8 => exact Nat.le_refl _); rintro e w53 ⟨v307, v310, v318, v321, rfl, ho0, ho1, ho2, ho3, hb⟩; refine ⟨_, rfl, ?_⟩; have n0_ := Aside0.mk (Kd.S_mono (Kd.S_told (Kd.S_told (Kd.S_told (Kd.S_told (Kd.S_old (by (with_reducible repeat (first | apply Kd.S_alloc | apply Kd.S_drewN | apply Kd.S_drew)); exact (Kd.S_mono (Kd.S_far (p := ⟨gb278, 13, none⟩) (Kd.S_far (p := ⟨gb278, 12, none⟩) (Kd.S_far (p := ⟨gb278, 11, none⟩) (Kd.S_far (p := ⟨gb278, 10, none⟩) (Kd.S_far (p := ⟨gb278, 9, none⟩) (Kd.S_far (p := ⟨gb278, 8, none⟩) (Kd.S_far (p := ⟨gb278, 7, none⟩) (Kd.S_mono HO_5.out (fun k_ hk => (⟨hk, hk⟩ : _ ∧ k_ ≠ gb278))) (fun _ hk => hk.2) (.bool false)) (fun _ hk => hk.2) (.slice none 0 0)) (fun _ hk => hk.2) (.slice none 0 0)) (fun _ hk => hk.2) (.int .i64 0)) (fun _ hk => hk.2) (.int .i64 0)) (fun _ hk => hk.2) (.int .i64 0)) (fun _ hk => hk.2) (.int .i64 0)) (fun _ h_ => h_.1))) hb) (Kd.R_base ho0)) (Kd.R_base ho1)) (Kd.R_base ho2)) (Kd.R_base ho3)) (fun _ h_ => h_.1)); have n1_ := Aside0.mk (Kd.R_lower ho0 (below_size (by repeat (first | (with_reducible first | exact HB.out | apply below_alloc | apply pw_below_drewN | apply below_drew1 | refine below_set ?_ GE276.out | refine below_set ?_ GE278.out) | exact HB.out | exact Below.refl _ _)))); have n2_ := Aside0.mk (Kd.R_lower ho1 (below_size (by repeat (first | (with_reducible first | exact HB.out | apply below_alloc | apply pw_below_drewN | apply below_drew1 | refine below_set ?_ GE276.out | refine below_set ?_ GE278.out) | exact HB.out | exact Below.refl _ _)))); have n3_ := Aside0.mk (Kd.R_lower ho2 (below_size (by repeat (first | (with_reducible first | exact HB.out | apply below_alloc | apply pw_below_drewN | apply below_drew1 | refine below_set ?_ GE276.out | refine below_set ?_ GE278.out) | exact HB.out | exact Below.refl _ _)))); have n4_ := Aside0.mk (Kd.R_lower ho3 (below_size (by repeat (first | (with_reducible first | exact HB.out | apply below_alloc | apply pw_below_drewN | apply below_drew1 | refine below_set ?_ GE276.out | refine below_set ?_ GE278.out) | exact HB.out | exact Below.refl _ _)))); have n5_ := Aside0.mk (blk_below (g := gb276) (o := .cells #[.slice A0_0 l0_0.length c0_0, .slice A0_1 l0_1.length c0_1, .int .i64 a0_2, .bool a0_3, .bool a0_4, .bool false] 28 (0, 0)) (by (with_reducible repeat (first | refine blk_drewN ?_ _ | refine blk_drew ?_ | refine blk_alloc ?_ _)); refine blk_far ?_ NB276_278.out _; (with_reducible repeat (first | refine blk_drewN ?_ _ | refine blk_drew ?_ | refine blk_alloc ?_ _)); refine blk_far ?_ NB276_278.out _; (with_reducible repeat (first | refine blk_drewN ?_ _ | refine blk_drew ?_ | refine blk_alloc ?_ _)); refine blk_far ?_ NB276_278.out _; (with_reducible repeat (first | refine blk_drewN ?_ _ | refine blk_drew ?_ | refine blk_alloc ?_ _)); refine blk_far ?_ NB276_278.out _; (with_reducible repeat (first | refine blk_drewN ?_ _ | refine blk_drew ?_ | refine blk_alloc ?_ _)); refine blk_far ?_ NB276_278.out _; (with_reducible repeat (first | refine blk_drewN ?_ _ | refine blk_drew ?_ | refine blk_alloc ?_ _)); refine blk_far ?_ NB276_278.out _; (with_reducible repeat (first | refine blk_drewN ?_ _ | refine blk_drew ?_ | refine blk_alloc ?_ _)); refine blk_far ?_ NB276_278.out _; (with_reducible repeat (first | refine blk_drewN ?_ _ | refine blk_drew ?_ | refine blk_alloc ?_ _)); exact BK276.out) hb); have n6_ := Aside0.mk (blk_below (g := gb278) (o := .cells #[.int .i64 ((rd_T38 l1 x10_1).f0), .slice A277_1 ((rd_T38 l1 x10_1).f1.f0).length c277_1, .slice A277_2 ((rd_T38 l1 x10_1).f1.f1).length c277_2, .int .i64 ((rd_T38 l1 x10_1).f1.f2), .int .i64 ((rd_T38 l1 x10_1).f1.f3), .int .i64 ((rd_T38 l1 x10_1).f1.f4), .int .i64 ((rd_T38 l1 x10_1).f1.f5), .bool false, .slice none 0 0, .slice none 0 0, .int .i64 0, .int .i64 0, .int .i64 0, .int .i64 0] 38 (0, 0)) (by (with_reducible repeat (first | refine blk_drewN ?_ _ | refine blk_drew ?_ | refine blk_alloc ?_ _)); refine blk_put (cs := #[.int .i64 ((rd_T38 l1 x10_1).f0), .slice A277_1 ((rd_T38 l1 x10_1).f1.f0).length c277_1, .slice A277_2 ((rd_T38 l1 x10_1).f1.f1).length c277_2, .int .i64 ((rd_T38 l1 x10_1).f1.f2), .int .i64 ((rd_T38 l1 x10_1).f1.f3), .int .i64 ((rd_T38 l1 x10_1).f1.f4), .int .i64 ((rd_T38 l1 x10_1).f1.f5), .bool false, .slice none 0 0, .slice none 0 0, .int .i64 0, .int .i64 0, .int .i64 0, .int .i64 ((rd_T38 l1 x10_1).f3.f5)]) ?_ 13 _ rfl; (with_reducible repeat (first | refine blk_drewN ?_ _ | refine blk_drew ?_ | refine blk_alloc ?_ _)); refine blk_put (cs := #[.int .i64 ((rd_T38 l1 x10_1).f0), .slice A277_1 ((rd_T38 l1 x10_1).f1.f0).length c277_1, .slice A277_2 ((rd_T38 l1 x10_1).f1.f1).length c277_2, .int .i64 ((rd_T38 l1 x10_1).f1.f2), .int .i64 ((rd_T38 l1 x10_1).f1.f3), .int .i64 ((rd_T38 l1 x10_1).f1.f4), .int .i64 ((rd_T38 l1 x10_1).f1.f5), .bool false, .slice none 0 0, .slice none 0 0, .int .i64 0, .int .i64 0, .int .i64 ((rd_T38 l1 x10_1).f3.f4), .int .i64 ((rd_T38 l1 x10_1).f3.f5)]) ?_ 12 _ rfl; (with_reducible repeat (first | refine blk_drewN ?_ _ | refine blk_drew ?_ | refine blk_alloc ?_ _)); refine blk_put (cs := #[.int .i64 ((rd_T38 l1 x10_1).f0), .slice A277_1 ((rd_T38 l1 x10_1).f1.f0).length c277_1, .slice A277_2 ((rd_T38 l1 x10_1).f1.f1).length c277_2, .int .i64 ((rd_T38 l1 x10_1).f1.f2), .int .i64 ((rd_T38 l1 x10_1).f1.f3), .int .i64 ((rd_T38 l1 x10_1).f1.f4), .int .i64 ((rd_T38 l1 x10_1).f1.f5), .bool false, .slice none 0 0, .slice none 0 0, .int .i64 0, .int .i64 ((rd_T38 l1 x10_1).f3.f3), .int .i64 ((rd_T38 l1 x10_1).f3.f4), .int .i64 ((rd_T38 l1 x10_1).f3.f5)]) ?_ 11 _ rfl; (with_reducible repeat (first | refine blk_drewN ?_ _ | refine blk_drew ?_ | refine blk_alloc ?_ _)); refine blk_put (cs := #[.int .i64 ((rd_T38 l1 x10_1).f0), .slice A277_1 ((rd_T38 l1 x10_1).f1.f0).length c277_1, .slice A277_2 ((rd_T38 l1 x10_1).f1.f1).length c277_2, .int .i64 ((rd_T38 l1 x10_1).f1.f2), .int .i64 ((rd_T38 l1 x10_1).f1.f3), .int .i64 ((rd_T38 l1 x10_1).f1.f4), .int .i64 ((rd_T38 l1 x10_1).f1.f5), .bool false, .slice none 0 0, .slice none 0 0, .int .i64 ((rd_T38 l1 x10_1).f3.f2), .int .i64 ((rd_T38 l1 x10_1).f3.f3), .int .i64 ((rd_T38 l1 x10_1).f3.f4), .int .i64 ((rd_T38 l1 x10_1).f3.f5)]) ?_ 10 _ rfl; (with_reducible repeat (first | refine blk_drewN ?_ _ | refine blk_drew ?_ | refine blk_alloc ?_ _)); refine blk_put (cs := #[.int .i64 ((rd_T38 l1 x10_1).f0), .slice A277_1 ((rd_T38 l1 x10_1).f1.f0).length c277_1, .slice A277_2 ((rd_T38 l1 x10_1).f1.f1).length c277_2, .int .i64 ((rd_T38 l1 x10_1).f1.f2), .int .i64 ((rd_T38 l1 x10_1).f1.f3), .int .i64 ((rd_T38 l1 x10_1).f1.f4), .int .i64 ((rd_T38 l1 x10_1).f1.f5), .bool false, .slice none 0 0, .slice A277_9 ((rd_T38 l1 x10_1).f3.f1).length c277_9, .int .i64 ((rd_T38 l1 x10_1).f3.f2), .int .i64 ((rd_T38 l1 x10_1).f3.f3), .int .i64 ((rd_T38 l1 x10_1).f3.f4), .int .i64 ((rd_T38 l1 x10_1).f3.f5)]) ?_ 9 _ rfl; (with_reducible repeat (first | refine blk_drewN ?_ _ | refine blk_drew ?_ | refine blk_alloc ?_ _)); refine blk_put (cs := #[.int .i64 ((rd_T38 l1 x10_1).f0), .slice A277_1 ((rd_T38 l1 x10_1).f1.f0).length c277_1, .slice A277_2 ((rd_T38 l1 x10_1).f1.f1).length c277_2, .int .i64 ((rd_T38 l1 x10_1).f1.f2), .int .i64 ((rd_T38 l1 x10_1).f1.f3), .int .i64 ((rd_T38 l1 x10_1).f1.f4), .int .i64 ((rd_T38 l1 x10_1).f1.f5), .bool false, .slice A277_8 ((rd_T38 l1 x10_1).f3.f0).length c277_8, .slice A277_9 ((rd_T38 l1 x10_1).f3.f1).length c277_9, .int .i64 ((rd_T38 l1 x10_1).f3.f2), .int .i64 ((rd_T38 l1 x10_1).f3.f3), .int .i64 ((rd_T38 l1 x10_1).f3.f4), .int .i64 ((rd_T38 l1 x10_1).f3.f5)]) ?_ 8 _ rfl; (with_reducible repeat (first | refine blk_drewN ?_ _ | refine blk_drew ?_ | refine blk_alloc ?_ _)); refine blk_put (cs := #[.int .i64 ((rd_T38 l1 x10_1).f0), .slice A277_1 ((rd_T38 l1 x10_1).f1.f0).length c277_1, .slice A277_2 ((rd_T38 l1 x10_1).f1.f1).length c277_2, .int .i64 ((rd_T38 l1 x10_1).f1.f2), .int .i64 ((rd_T38 l1 x10_1).f1.f3), .int .i64 ((rd_T38 l1 x10_1).f1.f4), .int .i64 ((rd_T38 l1 x10_1).f1.f5), .bool ((rd_T38 l1 x10_1).f2), .slice A277_8 ((rd_T38 l1 x10_1).f3.f0).length c277_8, .slice A277_9 ((rd_T38 l1 x10_1).f3.f1).length c277_9, .int .i64 ((rd_T38 l1 x10_1).f3.f2), .int .i64 ((rd_T38 l1 x10_1).f3.f3), .int .i64 ((rd_T38 l1 x10_1).f3.f4), .int .i64 ((rd_T38 l1 x10_1).f3.f5)]) ?_ 7 _ rfl; (with_reducible repeat (first | refine blk_drewN ?_ _ | refine blk_drew ?_ | refine blk_alloc ?_ _)); exact BK278.out) hb); have n7_ := Aside0.mk (below_step (by repeat (first | (with_reducible first | exact HB.out | apply below_alloc | apply pw_below_drewN | apply below_drew1 | refine below_set ?_ GE276.out | refine below_set ?_ GE278.out) | exact HB.out | exact Below.refl _ _)) hb); clear HO_5; clear BK276; clear BK278; clear HB; have HO_5 := n0_; have HO308 := n1_; have HO311 := n2_; have HO319 := n3_; have HO322 := n4_; have BK276 := n5_; have BK278 := n6_; have HB := n7_; clear n0_ n1_ n2_ n3_ n4_ n5_ n6_ n7_; (try clear hb); (try clear hb2); (try clear hk); (try clear hi); (try clear ho0); (try clear ho1); (try clear ho2); (try clear ho3); obtain ⟨Ao55, co55, eo55⟩ := Kd.R_slice HO308.out; subst eo55; obtain ⟨Ao56, co56, eo56⟩ := Kd.R_slice HO311.out; subst eo56; obtain ⟨Ao57, co57, eo57⟩ := Kd.R_slice HO319.out; subst eo57; obtain ⟨Ao58, co58, eo58⟩ := Kd.R_slice HO322.out; subst eo58) | ((with_reducible refine gate_builtin (b := .append) (xs := #[.tmp 47, .tmp 50]) rfl ?_); at_builtin; refine Kd.S_append k38 (w0 := w) w.heap.size rfl (.tmp 47) (.tmp 50) 22 38 (.agg #[(.int .i64 0), (.slice none 0 0), (.slice none 0 0), (.int .i64 0), (.int .i64 0), (.int .i64 0), (.int .i64 0), (.bool false), (.slice none 0 0), (.slice none 0 0), (.int .i64 0), (.int .i64 0), (.int .i64 0), (.int .i64 0)]) 176 rfl Try.underlying22 info38 rfl (by decide) (by omega) u5 x5_1 (⟨t305, (⟨t306, t309, t312, t313, t314, t315⟩ : S36), t316, (⟨t317, t320, t323, t324, t325, t326⟩ : S36)⟩ : S38) [.int .i64 t305, .slice Ao55 t306.length co55, .slice Ao56 t309.length co56, .int .i64 t312, .int .i64 t313, .int .i64 t314, .int .i64 t315, .bool t316, .slice Ao57 t317.length co57, .slice Ao58 t320.length co58, .int .i64 t323, .int .i64 t324, .int .i64 t325, .int .i64 t326] (fun k_ => k_ ≠ gb278) (fun k_ => some k_ = (.slice Ao55 t306.length co55 : Value).ownBlock ∨ some k_ = (.slice Ao56 t309.length co56 : Value).ownBlock ∨ some k_ = (.slice Ao57 t317.length co57 : Value).ownBlock ∨ some k_ = (.slice Ao58 t320.length co58 : Value).ownBlock) rfl rfl ?aP (fun k_ hk_ => hk_.elim (fun h_ => ((Kd.R_mono (ok' := fun k_ => ((fun k_ => k_ ≠ gb278)) k_ ∧ some k_ ≠ (u5 : Value).ownBlock) (Kd.R_types (Kd.R_apart' (HO308.out) (Kd.S_typed HO_5.out) (by decide)) BK278.out (by decide)) (fun k_ hk => ⟨hk.2, hk.1.2⟩))).1 k_ h_.symm) (fun h_ => h_.elim (fun h_ => ((Kd.R_mono (ok' := fun k_ => ((fun k_ => k_ ≠ gb278)) k_ ∧ some k_ ≠ (u5 : Value).ownBlock) (Kd.R_types (Kd.R_apart' (HO311.out) (Kd.S_typed HO_5.out) (by decide)) BK278.out (by decide)) (fun k_ hk => ⟨hk.2, hk.1.2⟩))).1 k_ h_.symm) (fun h_ => h_.elim (fun h_ => ((Kd.R_mono (ok' := fun k_ => ((fun k_ => k_ ≠ gb278)) k_ ∧ some k_ ≠ (u5 : Value).ownBlock) (Kd.R_types (Kd.R_apart' (HO319.out) (Kd.S_typed HO_5.out) (by decide)) BK278.out (by decide)) (fun k_ hk => ⟨hk.2, hk.1.2⟩))).1 k_ h_.symm) (fun h_ => ((Kd.R_mono (ok' := fun k_ => ((fun k_ => k_ ≠ gb278)) k_ ∧ some k_ ≠ (u5 : Value).ownBlock) (Kd.R_types (Kd.R_apart' (HO322.out) (Kd.S_typed HO_5.out) (by decide)) BK278.out (by decide)) (fun k_ hk => ⟨hk.2, hk.1.2⟩))).1 k_ h_.symm)))) ?aF ?aO ?aB ?aS ?aL ?_; (case aP => exact k38_mkM _ _ _ (⟨t305, (⟨t306, t309, t312, t313, t314, t315⟩ : S36), t316, (⟨t317, t320, t323, t324, t325, t326⟩ : S36)⟩ : S38) (Kd.R_mono (Kd.R_tight rfl (Kd.R_mono (ok' := fun k_ => ((fun k_ => k_ ≠ gb278)) k_ ∧ some k_ ≠ (u5 : Value).ownBlock) (Kd.R_types (Kd.R_apart' (HO308.out) (Kd.S_typed HO_5.out) (by decide)) BK278.out (by decide)) (fun k_ hk => ⟨hk.2, hk.1.2⟩))) (fun _ h_ => Or.inl h_)) (Kd.R_mono (Kd.R_tight rfl (Kd.R_mono (ok' := fun k_ => ((fun k_ => k_ ≠ gb278)) k_ ∧ some k_ ≠ (u5 : Value).ownBlock) (Kd.R_types (Kd.R_apart' (HO311.out) (Kd.S_typed HO_5.out) (by decide)) BK278.out (by decide)) (fun k_ hk => ⟨hk.2, hk.1.2⟩))) (fun _ h_ => Or.inr (Or.inl h_))) (Kd.R_mono (Kd.R_tight rfl (Kd.R_mono (ok' := fun k_ => ((fun k_ => k_ ≠ gb278)) k_ ∧ some k_ ≠ (u5 : Value).ownBlock) (Kd.R_types (Kd.R_apart' (HO319.out) (Kd.S_typed HO_5.out) (by decide)) BK278.out (by decide)) (fun k_ hk => ⟨hk.2, hk.1.2⟩))) (fun _ h_ => Or.inr (Or.inr (Or.inl h_)))) (Kd.R_mono (Kd.R_tight rfl (Kd.R_mono (ok' := fun k_ => ((fun k_ => k_ ≠ gb278)) k_ ∧ some k_ ≠ (u5 : Value).ownBlock) (Kd.R_types (Kd.R_apart' (HO322.out) (Kd.S_typed HO_5.out) (by decide)) BK278.out (by decide)) (fun k_ hk => ⟨hk.2, hk.1.2⟩))) (fun _ h_ => Or.inr (Or.inr (Or.inr (h_)))))); (case aB => exact (by repeat (first | (with_reducible first | exact HB.out | apply below_alloc | apply pw_below_drewN | apply below_drew1 | refine below_set ?_ GE276.out | refine below_set ?_ GE278.out) | exact HB.out | exact Below.refl _ _))); (case aF => exact (fun k_ hk => Kd.freshB (g := gb278) (o := .cells #[.int .i64 ((rd_T38 l1 x10_1).f0), .slice A277_1 ((rd_T38 l1 x10_1).f1.f0).length c277_1, .slice A277_2 ((rd_T38 l1 x10_1).f1.f1).length c277_2, .int .i64 ((rd_T38 l1 x10_1).f1.f2), .int .i64 ((rd_T38 l1 x10_1).f1.f3), .int .i64 ((rd_T38 l1 x10_1).f1.f4), .int .i64 ((rd_T38 l1 x10_1).f1.f5), .bool false, .slice none 0 0, .slice none 0 0, .int .i64 0, .int .i64 0, .int .i64 0, .int .i64 0] 38 (0, 0)) (by (with_reducible repeat (first | refine blk_drewN ?_ _ | refine blk_drew ?_ | refine blk_alloc ?_ _)); exact BK278.out) k_ hk)); (case aO => exact (by (with_reducible repeat (first | apply Kd.S_alloc | apply Kd.S_drewN | apply Kd.S_drew)); exact Kd.S_mono HO_5.out (fun k_ hk => ⟨hk.1.1.1.1, fun e_ => e_.elim (fun h_ => hk.1.1.1.2 h_) (fun h_ => h_.elim (fun h_ => hk.1.1.2 h_) (fun h_ => h_.elim (fun h_ => hk.1.2 h_) (fun h_ => hk.2 h_)))⟩))); (case aS => exact (below_size (by repeat (first | (with_reducible first | exact HB.out | apply below_alloc | apply pw_below_drewN | apply below_drew1 | refine below_set ?_ GE276.out | refine below_set ?_ GE278.out) | exact HB.out | exact Below.refl _ _)))); (case aL => have := LMc49.out; omega); intro v328 w54 ho hb hg hat; rw [← Ny327.out] at ho; have n0_ := Aside0.mk (blk_grown (g := gb276) (o := .cells #[.slice A0_0 l0_0.length c0_0, .slice A0_1 l0_1.length c0_1, .int .i64 a0_2, .bool a0_3, .bool a0_4, .bool false] 28 (0, 0)) (by (with_reducible repeat (first | refine blk_drewN ?_ _ | refine blk_drew ?_ | refine blk_alloc ?_ _)); exact BK276.out) hg (Kd.S_ne HO_5.out BK276.out (by decide))); have n1_ := Aside0.mk (blk_grown (g := gb278) (o := .cells #[.int .i64 ((rd_T38 l1 x10_1).f0), .slice A277_1 ((rd_T38 l1 x10_1).f1.f0).length c277_1, .slice A277_2 ((rd_T38 l1 x10_1).f1.f1).length c277_2, .int .i64 ((rd_T38 l1 x10_1).f1.f2), .int .i64 ((rd_T38 l1 x10_1).f1.f3), .int .i64 ((rd_T38 l1 x10_1).f1.f4), .int .i64 ((rd_T38 l1 x10_1).f1.f5), .bool false, .slice none 0 0, .slice none 0 0, .int .i64 0, .int .i64 0, .int .i64 0, .int .i64 0] 38 (0, 0)) (by (with_reducible repeat (first | refine blk_drewN ?_ _ | refine blk_drew ?_ | refine blk_alloc ?_ _)); exact BK278.out) hg (Kd.S_away HO_5.out (fun _ hk => hk.1.1.1.1))); have n2_ := Aside0.mk (hb); have n3_ := Aside0.mk (ho); clear BK276; clear BK278; clear HB; clear HO_5; clear HO308; clear HO311; clear HO319; clear HO322; have BK276 := n0_; have BK278 := n1_; have HB := n2_; have HO329 := n3_; clear n0_ n1_ n2_ n3_; clear ho hb hg hat))
                      go_roundg kj6
                      case measure => have := HK1.out; have := HJ6.out; omega
                      case rel => exact ⟨(y327), (wrap64 (x10_1 + 1)), (by first | rfl | (simp; done) | (simp [*]; done)), H', ⟨by have := HK1.out; have := HJ6.out; omega⟩, ⟨by (with_reducible repeat (first | apply Kd.S_alloc | apply Kd.S_drewN | apply Kd.S_drew)); exact Kd.S_mono HO329.out (fun _ hk => trivial)⟩, ⟨by (with_reducible repeat (first | refine blk_drewN ?_ _ | refine blk_drew ?_ | refine blk_alloc ?_ _)); exact BK276.out⟩, ⟨by repeat (first | (with_reducible first | exact HB.out | apply below_alloc | apply pw_below_drewN | apply below_drew1 | refine below_set ?_ GE276.out | refine below_set ?_ GE278.out) | exact HB.out | exact Below.refl _ _)⟩⟩
                    · rw [if_neg c49] at H
                      exact absurd H (by simp)
          · rw [if_neg c6] at H
            exact absurd H (by simp)
        · rw [if_neg c5] at H
          exact absurd H (by simp)
      · rw [if_neg c4] at H
        have c4b0 : decide (x10_1 < (l1.length : Int)) = false := decide_eq_false c4
        clear c4
        obtain rfl := Option.some.inj H
        go_wp2
        go_ret
        exact ⟨_, by first | rfl | (simp [errW_none, errW_some] <;> rfl) | (simp [*, errW_none, errW_some] <;> rfl), by (with_reducible repeat (first | apply Kd.S_alloc | apply Kd.S_drewN | apply Kd.S_drew)); exact HO_5.out, by repeat (first | (with_reducible first | exact HB.out | apply below_alloc | apply pw_below_drewN | apply below_drew1 | refine below_set ?_ GE276.out) | exact HB.out | exact Below.refl _ _)⟩

end Go.Proofs.Ytdakdlgkhnjhoaa.PS
