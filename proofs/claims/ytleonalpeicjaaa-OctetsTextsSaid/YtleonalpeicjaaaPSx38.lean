-- Written by wip/printx.py, a program of this work over the kit's print, for this claim.
import Derived.Test.YtleonalpeicjaaaPSx0
import Derived.Test.YtleonalpeicjaaaPSx2
import Derived.Test.YtleonalpeicjaaaPSx10
import Derived.Test.YtleonalpeicjaaaPSx28
import Derived.Test.YtleonalpeicjaaaPSx29
import Derived.Test.YtleonalpeicjaaaPSx30
import Derived.Test.YtleonalpeicjaaaPSx34
namespace Go.Proofs.Ytleonalpeicjaaa.PS
open Go.RowKit Go.Proofs.YtleonalpeicjaaaW.PrintWords Go.Proofs.YtleonalpeicjaaaW.PrintLast Go.Proofs.YtleonalpeicjaaaW.PrintMore
attribute [local go_sem] max2_int min2_int max_two min_two max_three min_three max_four min_four   -- for this text's walks alone
attribute [local go_sem] Ext.pick_u8 Ext.pick_u32 Ext.pick_u64
set_option linter.unusedVariables false
set_option linter.unusedSimpArgs false

/-! ### terrierlaw01_OctetsTexts: function 11 -/
mutual
def terrierlaw01_OctetsTexts.l0 : Nat → List (List Int) → List Int → List (List Int) → Int → Int → Option (Bool)
  | 0, _, _, _, _, _ => none
  | k + 1, x0, x3, x14, x15, x16 => if x16 < x15 then (if 0 ≤ x16 then (if x16 < (x14.length : Int) then (if ((rd_L3 x14 x16).length : Int) > 3000 then (some true) else ((octets_Put.f k (IntKind.u64.wrap (((rd_L3 x14 x16).length : Int))) 2).bind fun bt416 => (if x3.length + bt416.1.length < 140737488355328 then ((some (x3 ++ bt416.1 : List Int)).bind fun y420 => (if y420.length + (rd_L3 x14 x16).length < 140737488355328 then (terrierlaw01_OctetsTexts.l0 k x0 (y420 ++ (rd_L3 x14 x16)) x14 x15 (wrap64 (x16 + 1))) else (none))) else (none)))) else (none)) else (none)) else ((octets_NewReader.f x3).bind fun bt426 => (terrierlaw01_OctetsTexts.l1 k x3 x0 (x0.length : Int) 0 bt426.1 bt426.2.1 bt426.2.2))
def terrierlaw01_OctetsTexts.l1 : Nat → List Int → List (List Int) → Int → Int → List Int → Int → Int → Option (Bool)
  | 0, _, _, _, _, _, _, _ => none
  | k + 1, x3, x38, x39, x40, x430000, x430001, x430002 => if x40 < x39 then (if 0 ≤ x40 then (if x40 < (x38.length : Int) then ((octets_Reader_Text.f k x430000 x430001 x430002 3000).bind fun bt437 => ((terrierref01_Same.f bt437.1 (rd_L3 x38 x40)).bind fun t442 => (if t442 = true then (terrierlaw01_OctetsTexts.l1 k x3 x38 x39 (wrap64 (x40 + 1)) x430000 bt437.2.1 bt437.2.2) else (some false)))) else (none)) else (none)) else ((octets_Reader_End.f x430000 x430001 x430002).bind fun bt430 => (if bt430.1 = 0 then ((octets_Reader_At.f x430000 bt430.2.1 bt430.2.2).bind fun bt433 => (some (bt433.1 == (x3.length : Int)))) else (some false)))
end
def terrierlaw01_OctetsTexts.f (k : Nat) (l0 : List (List Int)) : Option (Bool) := if (l0.length : Int) > 30 then (some true) else (terrierlaw01_OctetsTexts.l0 k l0 ([] : List Int) l0 (l0.length : Int) 0)
theorem terrierlaw01_OctetsTexts.mono_l : ∀ k, (∀ y0 y1 y2 y3 y4, LeO (terrierlaw01_OctetsTexts.l0 k y0 y1 y2 y3 y4) (terrierlaw01_OctetsTexts.l0 (k + 1) y0 y1 y2 y3 y4)) ∧ (∀ y0 y1 y2 y3 y4 y5 y6, LeO (terrierlaw01_OctetsTexts.l1 k y0 y1 y2 y3 y4 y5 y6) (terrierlaw01_OctetsTexts.l1 (k + 1) y0 y1 y2 y3 y4 y5 y6))
  | 0 => ⟨fun _ _ _ _ _ r h => by simp [terrierlaw01_OctetsTexts.l0] at h, fun _ _ _ _ _ _ _ r h => by simp [terrierlaw01_OctetsTexts.l1] at h⟩
  | k + 1 => by
    obtain ⟨ih0, ih1⟩ := terrierlaw01_OctetsTexts.mono_l k
    refine ⟨?_, ?_⟩
    · intro y0 y1 y2 y3 y4
      unfold terrierlaw01_OctetsTexts.l0
      repeat' first
      | (with_reducible exact ih0 _ _ _ _ _)
      | (with_reducible exact ih1 _ _ _ _ _ _ _)
      | (with_reducible exact octets_Put.mono _ _ _)
      | (with_reducible exact octets_Reader_Text.mono _ _ _ _ _)
      | (with_reducible exact LeO.refl _)
      | (with_reducible exact LeO.none _)
      | (with_reducible refine LeO.ite ?_ ?_)
      | (with_reducible refine LeO.bind ?_ (fun _ => ?_))
      | exact ih0 _ _ _ _ _
      | exact ih1 _ _ _ _ _ _ _
      | exact octets_Put.mono _ _ _
      | exact octets_Reader_Text.mono _ _ _ _ _
      | exact LeO.none _
      | refine LeO.ite ?_ ?_
      | refine LeO.bind ?_ (fun _ => ?_)
    · intro y0 y1 y2 y3 y4 y5 y6
      unfold terrierlaw01_OctetsTexts.l1
      repeat' first
      | (with_reducible exact ih0 _ _ _ _ _)
      | (with_reducible exact ih1 _ _ _ _ _ _ _)
      | (with_reducible exact octets_Put.mono _ _ _)
      | (with_reducible exact octets_Reader_Text.mono _ _ _ _ _)
      | (with_reducible exact LeO.refl _)
      | (with_reducible exact LeO.none _)
      | (with_reducible refine LeO.ite ?_ ?_)
      | (with_reducible refine LeO.bind ?_ (fun _ => ?_))
      | exact ih0 _ _ _ _ _
      | exact ih1 _ _ _ _ _ _ _
      | exact octets_Put.mono _ _ _
      | exact octets_Reader_Text.mono _ _ _ _ _
      | exact LeO.none _
      | refine LeO.ite ?_ ?_
      | refine LeO.bind ?_ (fun _ => ?_)
theorem terrierlaw01_OctetsTexts.mono : ∀ a0 k, LeO (terrierlaw01_OctetsTexts.f k a0) (terrierlaw01_OctetsTexts.f (k + 1) a0) := by
  intro a0 k
  obtain ⟨ih0, ih1⟩ := terrierlaw01_OctetsTexts.mono_l k
  unfold terrierlaw01_OctetsTexts.f
  repeat' first
      | (with_reducible exact ih0 _ _ _ _ _)
      | (with_reducible exact ih1 _ _ _ _ _ _ _)
      | (with_reducible exact octets_Put.mono _ _ _)
      | (with_reducible exact octets_Reader_Text.mono _ _ _ _ _)
      | (with_reducible exact LeO.refl _)
      | (with_reducible exact LeO.none _)
      | (with_reducible refine LeO.ite ?_ ?_)
      | (with_reducible refine LeO.bind ?_ (fun _ => ?_))
      | exact ih0 _ _ _ _ _
      | exact ih1 _ _ _ _ _ _ _
      | exact octets_Put.mono _ _ _
      | exact octets_Reader_Text.mono _ _ _ _ _
      | exact LeO.none _
      | refine LeO.ite ?_ ?_
      | refine LeO.bind ?_ (fun _ => ?_)
set_option maxHeartbeats 8000000 in
set_option maxRecDepth 100000 in
theorem terrierlaw01_OctetsTexts.calls0 (k : Nat) (A0 : Option Addr) (c0 : Nat) (l0 : List (List Int)) (r : Bool) (w : World) (hr0 : Kd.C (Kd.slice 5 (Kd.int .u8)) w A0 l0.length l0) (hc0 : l0.length ≤ c0) (h : terrierlaw01_OctetsTexts.f k l0 = some r) :
    Calls Try.prog 11 #[.slice A0 l0.length c0] w fun e w' => ∃ wN_ : World, Below w.heap.size w wN_ ∧ e = .returned (.bool r) ∧ Below wN_.heap.size wN_ w' := by
  have HR0 := Aside0.mk hr0
  have HC0 := Aside0.mk hc0
  clear hr0 hc0
  have HB := Aside0.mk (Below.refl w.heap.size w)
  have H : (if (l0.length : Int) > 30 then (some true) else (terrierlaw01_OctetsTexts.l0 k l0 ([] : List Int) l0 (l0.length : Int) 0)) = some r := h
  clear h
  by_cases c2 : (l0.length : Int) > 30
  · rw [if_pos c2] at H
    have c2b0 : decide (30 < (l0.length : Int)) = true := decide_eq_true c2
    have c2b1 : decide (30 < l0.length) = true := decide_eq_true (by omega)
    clear c2
    obtain rfl := Option.some.inj H
    go_enter Try.func11, Try.ntmps11
    go_wp2
    go_ret
    (first | refine ⟨w, HWN.out, ?_⟩ | refine ⟨w, Below.refl _ _, ?_⟩)
    exact ⟨by first | rfl | (simp [errW_none, errW_some] <;> rfl) | (simp [*, errW_none, errW_some] <;> rfl), by repeat (first | (with_reducible first | exact HB.out | apply below_alloc | apply pw_below_drewN | apply below_drew1) | exact HB.out | exact Below.refl _ _)⟩
  · rw [if_neg c2] at H
    have c2b0 : decide (30 < (l0.length : Int)) = false := decide_eq_false c2
    have c2b1 : decide (30 < l0.length) = false := decide_eq_false (by omega)
    clear c2
    have H' := Aside0.mk H
    clear H
    go_enter Try.func11, Try.ntmps11
    go_wp2
    go_loopg [3, 16] k (fun kq v3 v16 w' => ∃ (x3_1 : List Int) (x16_1 : Int), v16 = .int .i64 x16_1 ∧ Aside0 (terrierlaw01_OctetsTexts.l0 kq l0 x3_1 l0 (l0.length : Int) x16_1 = some r) ∧ Aside0 (kq ≤ k) ∧ Aside0 (Kd.R (Kd.int .u8) 5 w' w.heap.size (fun _ => True) v3 x3_1) ∧ Aside0 (Below w.heap.size w w'))
    case atStart => exact ⟨(([] : List Int)), (0), (by first | rfl | (simp; done) | (simp [*]; done)), H', ⟨Nat.le_refl _⟩, ⟨by first | exact Kd.R_nil _ _ _ _ _ | exact Kd.N_nil _ _ _ _ _ | exact Kd.V_nil _ _ _ _ _ | exact Kd.Q_nil _ _ _ _ _ | exact Kd.S_nil _ _ _ _ _⟩, ⟨by repeat (first | (with_reducible first | exact HB.out | apply below_alloc | apply pw_below_drewN | apply below_drew1) | exact HB.out | exact Below.refl _ _)⟩⟩
    case round =>
      clear H'
      try clear c1
      try clear c2
      try clear c2b0
      try clear c2b1
      try clear p2
      obtain ⟨x3_1, x16_1, rfl, HA, HK1, HO_3, HB⟩ := hrel
      cases gk with
      | zero => exact absurd HA.out (by simp [terrierlaw01_OctetsTexts.l0])
      | succ k1 =>
        have H := HA.out
        clear HA
        simp only [terrierlaw01_OctetsTexts.l0] at H
        by_cases c3 : x16_1 < (l0.length : Int)
        · rw [if_pos c3] at H
          have c3b0 : decide (x16_1 < (l0.length : Int)) = true := decide_eq_true c3
          clear c3
          by_cases c4 : 0 ≤ x16_1
          · rw [if_pos c4] at H
            have c4b0 : decide (0 ≤ x16_1) = true := decide_eq_true c4
            clear c4
            by_cases c5 : x16_1 < (l0.length : Int)
            · rw [if_pos c5] at H
              have c5b0 : decide (x16_1 < (l0.length : Int)) = true := decide_eq_true c5
              clear c5
              by_cases c6 : ((rd_L3 l0 x16_1).length : Int) > 3000
              · rw [if_pos c6] at H
                have c6b0 : decide (3000 < ((rd_L3 l0 x16_1).length : Int)) = true := decide_eq_true c6
                have c6b1 : decide (3000 < (rd_L3 l0 x16_1).length) = true := decide_eq_true (by omega)
                clear c6
                obtain rfl := Option.some.inj H
                have p415 : 0 ≤ (x16_1 : Int) := of_decide_eq_true (by first | (with_reducible assumption) | assumption)
                have q415 : x16_1 < (l0.length : Int) := of_decide_eq_true (by first | (with_reducible assumption) | assumption)
                obtain ⟨ad415, A415_0, c415_0, e415, hx415_0, hl415_0, hi415_0⟩ := at_L3 HR0.out x16_1 p415 q415
                cases e415
                replace hx415_0 := (HB.out.cell (World.block_lt_of_cell? w _ hx415_0)).trans hx415_0
                have HR415_0 := Aside0.mk hi415_0
                have HC415_0 := Aside0.mk hl415_0
                clear hi415_0 hl415_0
                replace p415 := eq_true p415
                replace q415 := eq_true q415
                go_wp2
                go_ret
                (first | refine ⟨w, HWN.out, ?_⟩ | refine ⟨w, Below.refl _ _, ?_⟩)
                exact ⟨by first | rfl | (simp [errW_none, errW_some] <;> rfl) | (simp [*, errW_none, errW_some] <;> rfl), by repeat (first | (with_reducible first | exact HB.out | apply below_alloc | apply pw_below_drewN | apply below_drew1) | exact HB.out | exact Below.refl _ _)⟩
              · rw [if_neg c6] at H
                have c6b0 : decide (3000 < ((rd_L3 l0 x16_1).length : Int)) = false := decide_eq_false c6
                have c6b1 : decide (3000 < (rd_L3 l0 x16_1).length) = false := decide_eq_false (by omega)
                clear c6
                replace H := Option.bind_eq_some_iff.mp H
                obtain ⟨⟨t416, t417⟩, A70, H⟩ := H
                replace H : (if x3_1.length + t416.length < 140737488355328 then ((some (x3_1 ++ t416 : List Int)).bind fun y420 => (if y420.length + (rd_L3 l0 x16_1).length < 140737488355328 then (terrierlaw01_OctetsTexts.l0 k1 l0 (y420 ++ (rd_L3 l0 x16_1)) l0 (l0.length : Int) (wrap64 (x16_1 + 1))) else (none))) else (none)) = some r := H
                have A7 := Aside0.mk A70
                clear A70
                by_cases c8 : x3_1.length + t416.length < 140737488355328
                · rw [if_pos c8] at H
                  have LMc8 := Aside0.mk c8
                  clear c8
                  obtain ⟨y420, hy420⟩ : ∃ y_ : List Int, y_ = (x3_1 ++ t416) := ⟨_, rfl⟩
                  replace H : (if y420.length + (rd_L3 l0 x16_1).length < 140737488355328 then (terrierlaw01_OctetsTexts.l0 k1 l0 (y420 ++ (rd_L3 l0 x16_1)) l0 (l0.length : Int) (wrap64 (x16_1 + 1))) else (none)) = some r := by first | (rw [hy420]; with_reducible exact H) | (have H2_ := (Option.bind_some _ _).symm.trans H; rw [hy420]; with_reducible exact H2_) | (have H2_ := (Option.bind_some _ _).symm.trans H; with_reducible exact H2_) | with_reducible exact H | (rw [hy420]; exact H) | exact H
                  have Ny420 := Aside0.mk hy420
                  clear hy420
                  by_cases c9 : y420.length + (rd_L3 l0 x16_1).length < 140737488355328
                  · rw [if_pos c9] at H
                    have LMc9 := Aside0.mk c9
                    clear c9
                    obtain ⟨y423, hy423⟩ : ∃ y_ : List Int, y_ = (y420 ++ (rd_L3 l0 x16_1)) := ⟨_, rfl⟩
                    replace H : (terrierlaw01_OctetsTexts.l0 k1 l0 y423 l0 (l0.length : Int) (wrap64 (x16_1 + 1))) = some r := by first | (rw [hy423]; with_reducible exact H) | (have H2_ := (Option.bind_some _ _).symm.trans H; rw [hy423]; with_reducible exact H2_) | (have H2_ := (Option.bind_some _ _).symm.trans H; with_reducible exact H2_) | with_reducible exact H | (rw [hy423]; exact H) | exact H
                    have Ny423 := Aside0.mk hy423
                    clear hy423
                    have H' := Aside0.mk H
                    clear H
                    have p415 : 0 ≤ (x16_1 : Int) := of_decide_eq_true (by first | (with_reducible assumption) | assumption)
                    have q415 : x16_1 < (l0.length : Int) := of_decide_eq_true (by first | (with_reducible assumption) | assumption)
                    obtain ⟨ad415, A415_0, c415_0, e415, hx415_0, hl415_0, hi415_0⟩ := at_L3 HR0.out x16_1 p415 q415
                    cases e415
                    replace hx415_0 := (HB.out.cell (World.block_lt_of_cell? w _ hx415_0)).trans hx415_0
                    have HR415_0 := Aside0.mk hi415_0
                    have HC415_0 := Aside0.mk hl415_0
                    clear hi415_0 hl415_0
                    replace p415 := eq_true p415
                    replace q415 := eq_true q415
                    go_wp2_with (first | ((with_reducible refine gate_callee (f := 16) rfl ?_); refine goesL_ (some 27) rfl rfl Try.func16 (by kernel_rfl) rfl #[.int .u64 (IntKind.u64.wrap (((rd_L3 l0 x16_1).length : Int))), .int .i64 2] rfl (by (try simp only [List.map_toArray, List.map_cons, List.map_nil]); first | done | rfl | (simp only [List.length_drop, List.length_take]; rfl)) ?_; (with_reducible refine (octets_Put.calls k1 (IntKind.u64.wrap (((rd_L3 l0 x16_1).length : Int))) 2 t416 t417 _ A7.out).mono ?_); rintro e w10 ⟨v418, rfl, ho0, hb⟩; refine ⟨_, rfl, ?_⟩; have n0_ := Aside0.mk (Kd.R_elder' (by (with_reducible repeat (first | apply Kd.R_alloc | apply Kd.R_drewN | apply Kd.R_drew)); exact HO_3.out) (Kd.R_base ho0) hb); have n1_ := Aside0.mk (Kd.R_lower (Kd.R_new' ho0 (Kd.R_lt (by (with_reducible repeat (first | apply Kd.R_alloc | apply Kd.R_drewN | apply Kd.R_drew)); exact HO_3.out))) (below_size (by repeat (first | (with_reducible first | exact HB.out | apply below_alloc | apply pw_below_drewN | apply below_drew1) | exact HB.out | exact Below.refl _ _)))); have n2_ := Aside0.mk (below_step (by repeat (first | (with_reducible first | exact HB.out | apply below_alloc | apply pw_below_drewN | apply below_drew1) | exact HB.out | exact Below.refl _ _)) hb); clear HO_3; clear HB; have HO_3 := n0_; have HO419 := n1_; have HB := n2_; clear n0_ n1_ n2_; (try clear hb); (try clear hb2); (try clear hk); (try clear hi); (try clear ho0); obtain ⟨Ao12, co12, eo12⟩ := Kd.R_slice HO419.out; subst eo12) | ((with_reducible refine gate_builtin (b := .append) (xs := #[.tmp 30, .tmp 31]) rfl ?_); (try (refine gate_guard (by rfl) ?_; dsimp only)); at_builtin; refine Kd.R_append_rows (Kd.int .u8) (w0 := w) w.heap.size rfl (.tmp 30) (.tmp 31) 22 5 (.int .u8 0) 1 rfl Try.underlying22 info5 rfl (by decide) (by omega) u3 x3_1 t416 _ _ _ (fun k_ => some k_ ≠ (.slice Ao12 t416.length co12 : Value).ownBlock) (fun _ => False) rfl rfl ?aO ?aR (fun _ _ h => h) (fun _ h => h.elim) ?aF ?aB ?aS ?aL ?_; (case aR => repeat (first | exact (Kd.R_reads' HO419.out).2.2 | (with_reducible refine Kd.C_alloc ?_ _) | (with_reducible refine Kd.C_drewN ?_ _) | (with_reducible refine Kd.C_drew ?_))); (case aB => exact (by repeat (first | (with_reducible first | exact HB.out | apply below_alloc | apply pw_below_drewN | apply below_drew1) | exact HB.out | exact Below.refl _ _))); (case aF => exact (fun k_ hk => Kd.fresh' (Kd.R_lt (by (with_reducible repeat (first | apply Kd.R_alloc | apply Kd.R_drewN | apply Kd.R_drew)); exact HO419.out)) k_ hk)); (case aO => exact (by (with_reducible repeat (first | apply Kd.R_alloc | apply Kd.R_drewN | apply Kd.R_drew)); exact Kd.R_mono HO_3.out (fun _ hk => hk.2))); (case aS => exact (below_size (by repeat (first | (with_reducible first | exact HB.out | apply below_alloc | apply pw_below_drewN | apply below_drew1) | exact HB.out | exact Below.refl _ _)))); (case aL => have := LMc8.out; omega); intro v421 w11 ho hb hg hat; rw [← Ny420.out] at ho; have n0_ := Aside0.mk (Kd.R_after (ok := (fun _ => True)) (by (with_reducible repeat (first | apply Kd.R_alloc | apply Kd.R_drewN | apply Kd.R_drew)); exact HO419.out) hg hat); have n1_ := Aside0.mk (hb); have n2_ := Aside0.mk (ho); clear HO419; clear HB; clear HO_3; have HO419 := n0_; have HB := n1_; have HO422 := n2_; clear n0_ n1_ n2_; clear ho hb hg hat) | ((with_reducible refine gate_builtin (b := .append) (xs := #[.tmp 32, .tmp 33]) rfl ?_); (try (refine gate_guard (by rfl) ?_; dsimp only)); at_builtin; refine Kd.R_append_rows (Kd.int .u8) (w0 := w) w.heap.size rfl (.tmp 32) (.tmp 33) 22 5 (.int .u8 0) 1 rfl Try.underlying22 info5 rfl (by decide) (by omega) v421 y420 (rd_L3 l0 x16_1) _ _ _ (fun k_ => some k_ ≠ (.slice Ao12 t416.length co12 : Value).ownBlock) (fun _ => False) rfl rfl ?aO ?aR (fun _ _ h => h) (fun _ h => h.elim) ?aF ?aB ?aS ?aL ?_; (case aR => repeat (first | exact (Kd.C_below HR415_0.out HB.out) | exact HR415_0.out | (with_reducible refine Kd.C_alloc ?_ _) | (with_reducible refine Kd.C_drewN ?_ _) | (with_reducible refine Kd.C_drew ?_))); (case aB => exact (by repeat (first | (with_reducible first | exact HB.out | apply below_alloc | apply pw_below_drewN | apply below_drew1) | exact HB.out | exact Below.refl _ _))); (case aF => exact (fun k_ hk => Kd.fresh' (Kd.R_lt (by (with_reducible repeat (first | apply Kd.R_alloc | apply Kd.R_drewN | apply Kd.R_drew)); exact HO419.out)) k_ hk)); (case aO => exact (by (with_reducible repeat (first | apply Kd.R_alloc | apply Kd.R_drewN | apply Kd.R_drew)); exact HO422.out)); (case aS => exact (below_size (by repeat (first | (with_reducible first | exact HB.out | apply below_alloc | apply pw_below_drewN | apply below_drew1) | exact HB.out | exact Below.refl _ _)))); (case aL => have := LMc9.out; omega); intro v424 w13 ho hb hg hat; rw [← Ny423.out] at ho; have n0_ := Aside0.mk (Kd.R_after (ok := (fun _ => True)) (by (with_reducible repeat (first | apply Kd.R_alloc | apply Kd.R_drewN | apply Kd.R_drew)); exact HO419.out) hg hat); have n1_ := Aside0.mk (hb); have n2_ := Aside0.mk (ho); clear HO419; clear HB; clear HO422; have HO419 := n0_; have HB := n1_; have HO425 := n2_; clear n0_ n1_ n2_; clear ho hb hg hat))
                    go_roundg k1
                    case measure => have := HK1.out; omega
                    case rel => exact ⟨(y423), (wrap64 (x16_1 + 1)), (by first | rfl | (simp; done) | (simp [*]; done)), H', ⟨by have := HK1.out; omega⟩, ⟨by (with_reducible repeat (first | apply Kd.R_alloc | apply Kd.R_drewN | apply Kd.R_drew)); exact Kd.R_mono HO425.out (fun _ hk => trivial)⟩, ⟨by repeat (first | (with_reducible first | exact HB.out | apply below_alloc | apply pw_below_drewN | apply below_drew1) | exact HB.out | exact Below.refl _ _)⟩⟩
                  · rw [if_neg c9] at H
                    exact absurd H (by simp)
                · rw [if_neg c8] at H
                  exact absurd H (by simp)
            · rw [if_neg c5] at H
              exact absurd H (by simp)
          · rw [if_neg c4] at H
            exact absurd H (by simp)
        · rw [if_neg c3] at H
          have c3b0 : decide (x16_1 < (l0.length : Int)) = false := decide_eq_false c3
          clear c3
          replace H := Option.bind_eq_some_iff.mp H
          obtain ⟨⟨t426, t427, t428⟩, A140, H⟩ := H
          replace H : (terrierlaw01_OctetsTexts.l1 k1 x3_1 l0 (l0.length : Int) 0 t426 t427 t428) = some r := H
          have A14 := Aside0.mk A140
          clear A140
          have H' := Aside0.mk H
          clear H
          obtain ⟨Ao15, co15, eo15⟩ := Kd.R_slice HO_3.out
          subst eo15
          go_wp2_with (first | ((with_reducible refine gate_callee (f := 26) rfl ?_); refine goesL_ (some 37) rfl rfl Try.func26 (by kernel_rfl) rfl #[.slice Ao15 x3_1.length co15] rfl (by (try simp only [List.map_toArray, List.map_cons, List.map_nil]); first | done | rfl | (simp only [List.length_drop, List.length_take]; rfl)) ?_; (with_reducible refine (octets_NewReader.calls _ _ x3_1 t426 t427 t428 w _ ?side1 ?side2 ?side3 A14.out).mono ?_); (case side1 => repeat (first | (with_reducible first | exact HB.out | apply below_alloc | apply pw_below_drewN | apply below_drew1) | exact HB.out | exact Below.refl _ _)); (case side2 => repeat (first | exact (Kd.R_reads' HO_3.out).2.2 | (with_reducible refine Kd.C_alloc ?_ _) | (with_reducible refine Kd.C_drewN ?_ _) | (with_reducible refine Kd.C_drew ?_))); (case side3 => exact (Kd.R_reads' HO_3.out).2.1); obtain ⟨wX, rfl⟩ : ∃ y_ : World, y_ = w := ⟨_, rfl⟩; rintro e w16 ⟨w, g429, rfl, hb1, hi, hb⟩; refine ⟨_, rfl, ?_⟩; have HWP := Aside0.mk (below_step (by repeat (first | (with_reducible first | exact HB.out | apply below_alloc | apply pw_below_drewN | apply below_drew1) | exact HB.out | exact Below.refl _ _)) hb1); (first | (have HWQ := Aside0.mk (below_step HWN.out HWP.out)) | (have HWQ := HWP)); (try clear HWN); have HWN := HWQ; clear HWQ; have n0_ := Aside0.mk (Kd.C_below HR0.out HWP.out); have n1_ := Aside0.mk (hb); have n2_ := Aside0.mk (hi); have n3_ := Aside0.mk (Kd.R_below (by (with_reducible repeat (first | apply Kd.R_alloc | apply Kd.R_drewN | apply Kd.R_drew)); exact HO_3.out) (below_step hb1 hb)); clear HR0; clear HB; clear HO_3; have HR0 := n0_; have HB := n1_; have HI429 := n2_; have HO_3 := n3_; clear n0_ n1_ n2_ n3_; (try clear hb); (try clear hb2); (try clear hk); (try clear hi)))
          go_loopg [40] k1 (fun kq v40 w' => ∃ (x40_2 : Int) (x430001_2 : Int) (x430002_2 : Int), v40 = .int .i64 x40_2 ∧ Aside0 (terrierlaw01_OctetsTexts.l1 kq x3_1 l0 (l0.length : Int) x40_2 t426 x430001_2 x430002_2 = some r) ∧ Aside0 (kq ≤ k1) ∧ Aside0 (Kd.R (Kd.int .u8) 5 w' wX.heap.size (fun _ => True) (.slice Ao15 x3_1.length co15) x3_1) ∧ Aside0 (IsS53 w w' g429 t426 x430001_2 x430002_2) ∧ Aside0 (Below w.heap.size w w'))
          case atStart => exact ⟨(0), (t427), (t428), (by first | rfl | (simp; done) | (simp [*]; done)), H', ⟨Nat.le_refl _⟩, ⟨by (with_reducible repeat (first | apply Kd.R_alloc | apply Kd.R_drewN | apply Kd.R_drew)); exact HO_3.out⟩, ⟨by repeat (first | (with_reducible first | exact HI429.out | apply IsS53.alloc | apply IsS53.drewN | apply IsS53.drew | apply IsS53.set_1 | apply IsS53.set_2) | exact HI429.out)⟩, ⟨by repeat (first | (with_reducible first | exact HB.out | apply below_alloc | apply pw_below_drewN | apply below_drew1 | refine below_set ?_ (IsS53.ge HI429.out)) | exact HB.out | exact Below.refl _ _)⟩⟩
          case round =>
            clear H'
            try clear c1
            try clear c2
            try clear c2b0
            try clear c2b1
            try clear p2
            try clear c3
            try clear c3b0
            try clear c4
            try clear c4b0
            try clear p4
            try clear q4
            try clear hx4
            try clear c5
            try clear c5b0
            try clear c6
            try clear c6b0
            try clear c6b1
            try clear p6
            try clear c8
            try clear c9
            try clear c11
            try clear c16
            try clear hx415_0
            try clear p2
            try clear p415
            try clear q415
            obtain ⟨x40_2, x430001_2, x430002_2, rfl, HA, HK2, HO_3, HI429, HB⟩ := hrel
            cases gk with
            | zero => exact absurd HA.out (by simp [terrierlaw01_OctetsTexts.l1])
            | succ k2 =>
              have H := HA.out
              clear HA
              simp only [terrierlaw01_OctetsTexts.l1] at H
              by_cases c17 : x40_2 < (l0.length : Int)
              · rw [if_pos c17] at H
                have c17b0 : decide (x40_2 < (l0.length : Int)) = true := decide_eq_true c17
                clear c17
                by_cases c18 : 0 ≤ x40_2
                · rw [if_pos c18] at H
                  have c18b0 : decide (0 ≤ x40_2) = true := decide_eq_true c18
                  clear c18
                  by_cases c19 : x40_2 < (l0.length : Int)
                  · rw [if_pos c19] at H
                    have c19b0 : decide (x40_2 < (l0.length : Int)) = true := decide_eq_true c19
                    clear c19
                    replace H := Option.bind_eq_some_iff.mp H
                    obtain ⟨⟨t437, t440, t441⟩, A200, H⟩ := H
                    replace H : ((terrierref01_Same.f t437 (rd_L3 l0 x40_2)).bind fun t442 => (if t442 = true then (terrierlaw01_OctetsTexts.l1 k2 x3_1 l0 (l0.length : Int) (wrap64 (x40_2 + 1)) t426 t440 t441) else (some false))) = some r := H
                    have A20 := Aside0.mk A200
                    clear A200
                    replace H := Option.bind_eq_some_iff.mp H
                    obtain ⟨t442, A210, H⟩ := H
                    replace H : (if t442 = true then (terrierlaw01_OctetsTexts.l1 k2 x3_1 l0 (l0.length : Int) (wrap64 (x40_2 + 1)) t426 t440 t441) else (some false)) = some r := H
                    have A21 := Aside0.mk A210
                    clear A210
                    by_cases c22 : t442 = true
                    · subst c22
                      have H1 : (terrierlaw01_OctetsTexts.l1 k2 x3_1 l0 (l0.length : Int) (wrap64 (x40_2 + 1)) t426 t440 t441) = some r := by rw [if_pos rfl] at H; exact H
                      clear H
                      have H := H1
                      clear H1
                      have H' := Aside0.mk H
                      clear H
                      have p436 : 0 ≤ (x40_2 : Int) := of_decide_eq_true (by first | (with_reducible assumption) | assumption)
                      have q436 : x40_2 < (l0.length : Int) := of_decide_eq_true (by first | (with_reducible assumption) | assumption)
                      obtain ⟨ad436, A436_0, c436_0, e436, hx436_0, hl436_0, hi436_0⟩ := at_L3 HR0.out x40_2 p436 q436
                      cases e436
                      replace hx436_0 := (HB.out.cell (World.block_lt_of_cell? w _ hx436_0)).trans hx436_0
                      have HR436_0 := Aside0.mk hi436_0
                      have HC436_0 := Aside0.mk hl436_0
                      clear hi436_0 hl436_0
                      replace p436 := eq_true p436
                      replace q436 := eq_true q436
                      go_wp2_with (first | ((with_reducible refine gate_callee (f := 31) rfl ?_); refine goesL_ (some 45) rfl rfl Try.func31 (by kernel_rfl) rfl #[.pointer (some ⟨g429, 0, none⟩), .int .i64 3000] rfl (by (try simp only [List.map_toArray, List.map_cons, List.map_nil]); first | done | rfl | (simp only [List.length_drop, List.length_take]; rfl)) ?_; (with_reducible refine (octets_Reader_Text.calls k2 g429 t426 x430001_2 x430002_2 3000 t437 t440 t441 w _ ?side1 ?side2 A20.out).mono ?_); (case side1 => repeat (first | (with_reducible first | exact HI429.out | apply IsS53.alloc | apply IsS53.drewN | apply IsS53.drew | apply IsS53.set_1 | apply IsS53.set_2) | exact HI429.out)); (case side2 => repeat (first | (with_reducible first | exact HB.out | apply below_alloc | apply pw_below_drewN | apply below_drew1 | refine below_set ?_ (IsS53.ge HI429.out)) | exact HB.out | exact Below.refl _ _)); rintro e w23 ⟨v438, rfl, ho0, hi, hb, hk⟩; refine ⟨_, rfl, ?_⟩; have n0_ := Aside0.mk (Kd.R_mono (Kd.R_told (Kd.R_oldK (IsS53.apart (show IsS53 w _ g429 t426 x430001_2 x430002_2 from by repeat (first | (with_reducible first | exact HI429.out | apply IsS53.alloc | apply IsS53.drewN | apply IsS53.drew | apply IsS53.set_1 | apply IsS53.set_2) | exact HI429.out)) (by (with_reducible repeat (first | apply Kd.R_alloc | apply Kd.R_drewN | apply Kd.R_drew)); exact HO_3.out) (by decide)) hk) (Kd.R_base ho0)) (fun _ h_ => h_.1)); have n1_ := Aside0.mk (Kd.R_lower (Kd.R_new' ho0 (Kd.R_lt (by (with_reducible repeat (first | apply Kd.R_alloc | apply Kd.R_drewN | apply Kd.R_drew)); exact HO_3.out))) (below_size (by repeat (first | (with_reducible first | exact HB.out | apply below_alloc | apply pw_below_drewN | apply below_drew1 | refine below_set ?_ (IsS53.ge HI429.out)) | exact HB.out | exact Below.refl _ _)))); have n2_ := Aside0.mk (hb); have n3_ := Aside0.mk (hi); clear HO_3; clear HB; clear HI429; have HO_3 := n0_; have HO439 := n1_; have HB := n2_; have HI429 := n3_; clear n0_ n1_ n2_ n3_; (try clear hb); (try clear hb2); (try clear hk); (try clear hi); (try clear ho0); obtain ⟨Ao24, co24, eo24⟩ := Kd.R_slice HO439.out; subst eo24) | ((with_reducible refine gate_callee (f := 13) rfl ?_); refine goesL_ (some 47) rfl rfl Try.func13 (by kernel_rfl) rfl #[.slice Ao24 t437.length co24, .slice A436_0 (rd_L3 l0 x40_2).length c436_0] rfl (by (try simp only [List.map_toArray, List.map_cons, List.map_nil]); first | done | rfl | (simp only [List.length_drop, List.length_take]; rfl)) ?_; (with_reducible refine (terrierref01_Same.calls _ _ t437 _ _ (rd_L3 l0 x40_2) true _ ?side1 ?side2 ?side3 ?side4 A21.out).mono ?_); (case side1 => repeat (first | exact (Kd.R_reads' HO439.out).2.2 | (with_reducible refine Kd.C_alloc ?_ _) | (with_reducible refine Kd.C_drewN ?_ _) | (with_reducible refine Kd.C_drew ?_))); (case side2 => exact (Kd.R_reads' HO439.out).2.1); (case side3 => repeat (first | exact (Kd.C_below HR436_0.out HB.out) | exact HR436_0.out | (with_reducible refine Kd.C_alloc ?_ _) | (with_reducible refine Kd.C_drewN ?_ _) | (with_reducible refine Kd.C_drew ?_))); (case side4 => exact HC436_0.out); rintro e w' ⟨rfl, ⟨nd, rfl⟩⟩; refine ⟨_, rfl, ?_⟩))
                      go_roundg k2
                      case measure => have := HK1.out; have := HK2.out; omega
                      case rel => exact ⟨(wrap64 (x40_2 + 1)), (t440), (t441), (by first | rfl | (simp; done) | (simp [*]; done)), H', ⟨by have := HK1.out; have := HK2.out; omega⟩, ⟨by (with_reducible repeat (first | apply Kd.R_alloc | apply Kd.R_drewN | apply Kd.R_drew)); exact Kd.R_mono HO_3.out (fun _ hk => trivial)⟩, ⟨by repeat (first | (with_reducible first | exact HI429.out | apply IsS53.alloc | apply IsS53.drewN | apply IsS53.drew | apply IsS53.set_1 | apply IsS53.set_2) | exact HI429.out)⟩, ⟨by repeat (first | (with_reducible first | exact HB.out | apply below_alloc | apply pw_below_drewN | apply below_drew1 | refine below_set ?_ (IsS53.ge HI429.out)) | exact HB.out | exact Below.refl _ _)⟩⟩
                    · replace c22 := Bool.eq_false_iff.mpr c22
                      subst c22
                      have H1 : (some false) = some r := by rw [if_neg (show ¬ (false = true) by decide)] at H; exact H
                      clear H
                      have H := H1
                      clear H1
                      obtain rfl := Option.some.inj H
                      have p436 : 0 ≤ (x40_2 : Int) := of_decide_eq_true (by first | (with_reducible assumption) | assumption)
                      have q436 : x40_2 < (l0.length : Int) := of_decide_eq_true (by first | (with_reducible assumption) | assumption)
                      obtain ⟨ad436, A436_0, c436_0, e436, hx436_0, hl436_0, hi436_0⟩ := at_L3 HR0.out x40_2 p436 q436
                      cases e436
                      replace hx436_0 := (HB.out.cell (World.block_lt_of_cell? w _ hx436_0)).trans hx436_0
                      have HR436_0 := Aside0.mk hi436_0
                      have HC436_0 := Aside0.mk hl436_0
                      clear hi436_0 hl436_0
                      replace p436 := eq_true p436
                      replace q436 := eq_true q436
                      go_wp2_with (first | ((with_reducible refine gate_callee (f := 31) rfl ?_); refine goesL_ (some 45) rfl rfl Try.func31 (by kernel_rfl) rfl #[.pointer (some ⟨g429, 0, none⟩), .int .i64 3000] rfl (by (try simp only [List.map_toArray, List.map_cons, List.map_nil]); first | done | rfl | (simp only [List.length_drop, List.length_take]; rfl)) ?_; (with_reducible refine (octets_Reader_Text.calls k2 g429 t426 x430001_2 x430002_2 3000 t437 t440 t441 w _ ?side1 ?side2 A20.out).mono ?_); (case side1 => repeat (first | (with_reducible first | exact HI429.out | apply IsS53.alloc | apply IsS53.drewN | apply IsS53.drew | apply IsS53.set_1 | apply IsS53.set_2) | exact HI429.out)); (case side2 => repeat (first | (with_reducible first | exact HB.out | apply below_alloc | apply pw_below_drewN | apply below_drew1 | refine below_set ?_ (IsS53.ge HI429.out)) | exact HB.out | exact Below.refl _ _)); rintro e w25 ⟨v438, rfl, ho0, hi, hb, hk⟩; refine ⟨_, rfl, ?_⟩; have n0_ := Aside0.mk (Kd.R_mono (Kd.R_told (Kd.R_oldK (IsS53.apart (show IsS53 w _ g429 t426 x430001_2 x430002_2 from by repeat (first | (with_reducible first | exact HI429.out | apply IsS53.alloc | apply IsS53.drewN | apply IsS53.drew | apply IsS53.set_1 | apply IsS53.set_2) | exact HI429.out)) (by (with_reducible repeat (first | apply Kd.R_alloc | apply Kd.R_drewN | apply Kd.R_drew)); exact HO_3.out) (by decide)) hk) (Kd.R_base ho0)) (fun _ h_ => h_.1)); have n1_ := Aside0.mk (Kd.R_lower (Kd.R_new' ho0 (Kd.R_lt (by (with_reducible repeat (first | apply Kd.R_alloc | apply Kd.R_drewN | apply Kd.R_drew)); exact HO_3.out))) (below_size (by repeat (first | (with_reducible first | exact HB.out | apply below_alloc | apply pw_below_drewN | apply below_drew1 | refine below_set ?_ (IsS53.ge HI429.out)) | exact HB.out | exact Below.refl _ _)))); have n2_ := Aside0.mk (hb); have n3_ := Aside0.mk (hi); clear HO_3; clear HB; clear HI429; have HO_3 := n0_; have HO439 := n1_; have HB := n2_; have HI429 := n3_; clear n0_ n1_ n2_ n3_; (try clear hb); (try clear hb2); (try clear hk); (try clear hi); (try clear ho0); obtain ⟨Ao26, co26, eo26⟩ := Kd.R_slice HO439.out; subst eo26) | ((with_reducible refine gate_callee (f := 13) rfl ?_); refine goesL_ (some 47) rfl rfl Try.func13 (by kernel_rfl) rfl #[.slice Ao26 t437.length co26, .slice A436_0 (rd_L3 l0 x40_2).length c436_0] rfl (by (try simp only [List.map_toArray, List.map_cons, List.map_nil]); first | done | rfl | (simp only [List.length_drop, List.length_take]; rfl)) ?_; (with_reducible refine (terrierref01_Same.calls _ _ t437 _ _ (rd_L3 l0 x40_2) false _ ?side1 ?side2 ?side3 ?side4 A21.out).mono ?_); (case side1 => repeat (first | exact (Kd.R_reads' HO439.out).2.2 | (with_reducible refine Kd.C_alloc ?_ _) | (with_reducible refine Kd.C_drewN ?_ _) | (with_reducible refine Kd.C_drew ?_))); (case side2 => exact (Kd.R_reads' HO439.out).2.1); (case side3 => repeat (first | exact (Kd.C_below HR436_0.out HB.out) | exact HR436_0.out | (with_reducible refine Kd.C_alloc ?_ _) | (with_reducible refine Kd.C_drewN ?_ _) | (with_reducible refine Kd.C_drew ?_))); (case side4 => exact HC436_0.out); rintro e w' ⟨rfl, ⟨nd, rfl⟩⟩; refine ⟨_, rfl, ?_⟩))
                      go_ret
                      (first | refine ⟨w, HWN.out, ?_⟩ | refine ⟨w, Below.refl _ _, ?_⟩)
                      exact ⟨by first | rfl | (simp [errW_none, errW_some] <;> rfl) | (simp [*, errW_none, errW_some] <;> rfl), by repeat (first | (with_reducible first | exact HB.out | apply below_alloc | apply pw_below_drewN | apply below_drew1 | refine below_set ?_ (IsS53.ge HI429.out)) | exact HB.out | exact Below.refl _ _)⟩
                  · rw [if_neg c19] at H
                    exact absurd H (by simp)
                · rw [if_neg c18] at H
                  exact absurd H (by simp)
              · rw [if_neg c17] at H
                have c17b0 : decide (x40_2 < (l0.length : Int)) = false := decide_eq_false c17
                clear c17
                replace H := Option.bind_eq_some_iff.mp H
                obtain ⟨⟨t430, t431, t432⟩, A270, H⟩ := H
                replace H : (if t430 = 0 then ((octets_Reader_At.f t426 t431 t432).bind fun bt433 => (some (bt433.1 == (x3_1.length : Int)))) else (some false)) = some r := H
                have A27 := Aside0.mk A270
                clear A270
                by_cases c28 : t430 = 0
                · rw [if_pos c28] at H
                  have c28b0 : (t430 == 0) = true := beq_iff_eq.mpr c28
                  have c28b1 : (t430 != 0) = false := bne_eq_false_iff_eq.mpr c28
                  clear c28
                  replace H := Option.bind_eq_some_iff.mp H
                  obtain ⟨⟨t433, t434, t435⟩, A290, H⟩ := H
                  replace H : (some (t433 == (x3_1.length : Int))) = some r := H
                  have A29 := Aside0.mk A290
                  clear A290
                  obtain rfl := Option.some.inj H
                  go_wp2_with (first | ((with_reducible refine gate_callee (f := 27) rfl ?_); refine goesL_ (some 51) rfl rfl Try.func27 (by kernel_rfl) rfl #[.pointer (some ⟨g429, 0, none⟩)] rfl (by (try simp only [List.map_toArray, List.map_cons, List.map_nil]); first | done | rfl | (simp only [List.length_drop, List.length_take]; rfl)) ?_; (with_reducible refine (octets_Reader_End.calls g429 t426 x430001_2 x430002_2 t430 t431 t432 w _ ?side1 ?side2 A27.out).mono ?_); (case side1 => repeat (first | (with_reducible first | exact HI429.out | apply IsS53.alloc | apply IsS53.drewN | apply IsS53.drew | apply IsS53.set_1 | apply IsS53.set_2) | exact HI429.out)); (case side2 => repeat (first | (with_reducible first | exact HB.out | apply below_alloc | apply pw_below_drewN | apply below_drew1 | refine below_set ?_ (IsS53.ge HI429.out)) | exact HB.out | exact Below.refl _ _)); rintro e w30 ⟨rfl, hi, hb, hk⟩; refine ⟨_, rfl, ?_⟩; have n0_ := Aside0.mk (Kd.R_mono (Kd.R_keep (IsS53.apart (show IsS53 w _ g429 t426 x430001_2 x430002_2 from by repeat (first | (with_reducible first | exact HI429.out | apply IsS53.alloc | apply IsS53.drewN | apply IsS53.drew | apply IsS53.set_1 | apply IsS53.set_2) | exact HI429.out)) (by (with_reducible repeat (first | apply Kd.R_alloc | apply Kd.R_drewN | apply Kd.R_drew)); exact HO_3.out) (by decide)) hk (fun _ h => h.2)) (fun _ h => h.1)); have n1_ := Aside0.mk (hb); have n2_ := Aside0.mk (hi); clear HO_3; clear HB; clear HI429; have HO_3 := n0_; have HB := n1_; have HI429 := n2_; clear n0_ n1_ n2_; (try clear hb); (try clear hb2); (try clear hk); (try clear hi)) | (go_at_call 28; (with_reducible refine (octets_Reader_At.calls g429 t426 t431 t432 t433 t434 t435 w _ ?side1 ?side2 A29.out).mono ?_); (case side1 => repeat (first | (with_reducible first | exact HI429.out | apply IsS53.alloc | apply IsS53.drewN | apply IsS53.drew | apply IsS53.set_1 | apply IsS53.set_2) | exact HI429.out)); (case side2 => repeat (first | (with_reducible first | exact HB.out | apply below_alloc | apply pw_below_drewN | apply below_drew1 | refine below_set ?_ (IsS53.ge HI429.out)) | exact HB.out | exact Below.refl _ _)); rintro e w31 ⟨rfl, hi, hb, hk⟩; have n0_ := Aside0.mk (Kd.R_mono (Kd.R_keep (IsS53.apart (show IsS53 w _ g429 t426 t431 t432 from by repeat (first | (with_reducible first | exact HI429.out | apply IsS53.alloc | apply IsS53.drewN | apply IsS53.drew | apply IsS53.set_1 | apply IsS53.set_2) | exact HI429.out)) (by (with_reducible repeat (first | apply Kd.R_alloc | apply Kd.R_drewN | apply Kd.R_drew)); exact HO_3.out) (by decide)) hk (fun _ h => h.2)) (fun _ h => h.1)); have n1_ := Aside0.mk (hb); have n2_ := Aside0.mk (hi); clear HO_3; clear HB; clear HI429; have HO_3 := n0_; have HB := n1_; have HI429 := n2_; clear n0_ n1_ n2_; (try clear hb); (try clear hb2); (try clear hk); (try clear hi)))
                  go_ret
                  (first | refine ⟨w, HWN.out, ?_⟩ | refine ⟨w, Below.refl _ _, ?_⟩)
                  exact ⟨by first | rfl | (simp [errW_none, errW_some] <;> rfl) | (simp [*, errW_none, errW_some] <;> rfl), by repeat (first | (with_reducible first | exact HB.out | apply below_alloc | apply pw_below_drewN | apply below_drew1 | refine below_set ?_ (IsS53.ge HI429.out)) | exact HB.out | exact Below.refl _ _)⟩
                · rw [if_neg c28] at H
                  have c28b0 : (t430 == 0) = false := beq_eq_false_iff_ne.mpr c28
                  have c28b1 : (t430 != 0) = true := bne_iff_ne.mpr c28
                  obtain rfl := Option.some.inj H
                  go_wp2_with (first | ((with_reducible refine gate_callee (f := 27) rfl ?_); refine goesL_ (some 51) rfl rfl Try.func27 (by kernel_rfl) rfl #[.pointer (some ⟨g429, 0, none⟩)] rfl (by (try simp only [List.map_toArray, List.map_cons, List.map_nil]); first | done | rfl | (simp only [List.length_drop, List.length_take]; rfl)) ?_; (with_reducible refine (octets_Reader_End.calls g429 t426 x430001_2 x430002_2 t430 t431 t432 w _ ?side1 ?side2 A27.out).mono ?_); (case side1 => repeat (first | (with_reducible first | exact HI429.out | apply IsS53.alloc | apply IsS53.drewN | apply IsS53.drew | apply IsS53.set_1 | apply IsS53.set_2) | exact HI429.out)); (case side2 => repeat (first | (with_reducible first | exact HB.out | apply below_alloc | apply pw_below_drewN | apply below_drew1 | refine below_set ?_ (IsS53.ge HI429.out)) | exact HB.out | exact Below.refl _ _)); rintro e w32 ⟨rfl, hi, hb, hk⟩; refine ⟨_, rfl, ?_⟩; have n0_ := Aside0.mk (Kd.R_mono (Kd.R_keep (IsS53.apart (show IsS53 w _ g429 t426 x430001_2 x430002_2 from by repeat (first | (with_reducible first | exact HI429.out | apply IsS53.alloc | apply IsS53.drewN | apply IsS53.drew | apply IsS53.set_1 | apply IsS53.set_2) | exact HI429.out)) (by (with_reducible repeat (first | apply Kd.R_alloc | apply Kd.R_drewN | apply Kd.R_drew)); exact HO_3.out) (by decide)) hk (fun _ h => h.2)) (fun _ h => h.1)); have n1_ := Aside0.mk (hb); have n2_ := Aside0.mk (hi); clear HO_3; clear HB; clear HI429; have HO_3 := n0_; have HB := n1_; have HI429 := n2_; clear n0_ n1_ n2_; (try clear hb); (try clear hb2); (try clear hk); (try clear hi)))
                  go_ret
                  (first | refine ⟨w, HWN.out, ?_⟩ | refine ⟨w, Below.refl _ _, ?_⟩)
                  exact ⟨by first | rfl | (simp [errW_none, errW_some] <;> rfl) | (simp [*, errW_none, errW_some] <;> rfl), by repeat (first | (with_reducible first | exact HB.out | apply below_alloc | apply pw_below_drewN | apply below_drew1 | refine below_set ?_ (IsS53.ge HI429.out)) | exact HB.out | exact Below.refl _ _)⟩


theorem terrierlaw01_OctetsTexts.calls (k : Nat) (A0 : Option Addr) (c0 : Nat) (l0 : List (List Int)) (r : Bool) (w : World) (hr0 : Kd.C (Kd.slice 5 (Kd.int .u8)) w A0 l0.length l0) (hc0 : l0.length ≤ c0) (h : terrierlaw01_OctetsTexts.f k l0 = some r) :
    Calls Try.prog 11 #[.slice A0 l0.length c0] w fun e w' => e = .returned (.bool r) ∧ Below w.heap.size w w' := by
  refine (terrierlaw01_OctetsTexts.calls0 k A0 c0 l0 r w hr0 hc0 h).mono ?_
  rintro e w' ⟨wN_, hwn_, he_, hb_⟩
  exact ⟨he_, below_step hwn_ hb_⟩
/-- THE ONE PURE STATEMENT of terrierlaw01_OctetsTexts: yours. -/
def terrierlaw01_OctetsTexts.Pure : Prop := ∀ (l0 : List (List Int)), (Open.okSlice (fun y_ => Open.okSlice (fun y_ => (Lit.int .u8 y_).wf = true) 1 y_) 24 l0) → ∃ k, terrierlaw01_OctetsTexts.f k l0 = some true
theorem terrierlaw01_OctetsTexts.walk (P : terrierlaw01_OctetsTexts.Pure) (A0 : Option Addr) (c0 : Nat) (l0 : List (List Int)) (w : World) (hk0 : Open.okSlice (fun y_ => Open.okSlice (fun y_ => (Lit.int .u8 y_).wf = true) 1 y_) 24 l0) (hr0 : Kd.C (Kd.slice 5 (Kd.int .u8)) w A0 l0.length l0) (hc0 : l0.length ≤ c0) :
    Calls Try.prog 11 #[.slice A0 l0.length c0] w fun e w' => e = .returned (.bool true) ∧ Below w.heap.size w w' := by
  obtain ⟨k, h⟩ := P l0 hk0
  refine (terrierlaw01_OctetsTexts.calls k _ _ l0 true w hr0 hc0 h).mono ?_
  rintro e w' ⟨rfl, hd⟩
  exact ⟨rfl, hd⟩

end Go.Proofs.Ytleonalpeicjaaa.PS
