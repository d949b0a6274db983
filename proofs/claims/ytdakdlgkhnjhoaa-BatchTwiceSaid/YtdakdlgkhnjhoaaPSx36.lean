-- Written by wip/printx.py, a program of this work over the kit's print, for this claim.
import Derived.Test.YtdakdlgkhnjhoaaPSx0
import Derived.Test.YtdakdlgkhnjhoaaPSx1
import Derived.Test.YtdakdlgkhnjhoaaPSx5
namespace Go.Proofs.Ytdakdlgkhnjhoaa.PS
open Go.RowKit Go.Proofs.YtdakdlgkhnjhoaaW.PrintWords Go.Proofs.YtdakdlgkhnjhoaaW.PrintLast Go.Proofs.YtdakdlgkhnjhoaaW.PrintMore
attribute [local go_sem] max2_int min2_int max_two min_two max_three min_three max_four min_four   -- for this text's walks alone
attribute [local go_sem] Ext.pick_u8 Ext.pick_u32 Ext.pick_u64
set_option linter.unusedVariables false
set_option linter.unusedSimpArgs false

/-! ### batch_Split: function 17 -/
def batch_Split.l0 : Nat → List (S38) → Int → List (List (S38)) → Option ((List (List (S38))))
  | 0, _, _, _ => none
  | k + 1, x0, x1, x5 => if (x0.length : Int) > 0 then ((batch_cut.f k x0 x1).bind fun t396 => (if 0 ≤ t396 then (if t396 ≤ (x0.length : Int) then ((batch_twins.f k (x0.take (t396 : Int).toNat)).bind fun t402 => (if x5.length < 5864062014805 then (batch_Split.l0 k (x0.drop (t396 : Int).toNat) x1 (x5 ++ [t402])) else (none))) else (none)) else (none))) else (some x5)
def batch_Split.f (k : Nat) (l0 : List (S38)) (a1 : Int) : Option ((List (List (S38)))) := batch_Split.l0 k l0 a1 ([] : List (List (S38)))
theorem batch_Split.mono_l : ∀ k, (∀ y0 y1 y2, LeO (batch_Split.l0 k y0 y1 y2) (batch_Split.l0 (k + 1) y0 y1 y2))
  | 0 => fun _ _ _ r h => by simp [batch_Split.l0] at h
  | k + 1 => by
    have ih0 := batch_Split.mono_l k
    · intro y0 y1 y2
      unfold batch_Split.l0
      repeat' first
      | (with_reducible exact ih0 _ _ _)
      | (with_reducible exact batch_cut.mono _ _ _)
      | (with_reducible exact batch_twins.mono _ _)
      | (with_reducible exact LeO.refl _)
      | (with_reducible exact LeO.none _)
      | (with_reducible refine LeO.ite ?_ ?_)
      | (with_reducible refine LeO.bind ?_ (fun _ => ?_))
      | exact ih0 _ _ _
      | exact batch_cut.mono _ _ _
      | exact batch_twins.mono _ _
      | exact LeO.none _
      | refine LeO.ite ?_ ?_
      | refine LeO.bind ?_ (fun _ => ?_)
theorem batch_Split.mono : ∀ a0 a1 k, LeO (batch_Split.f k a0 a1) (batch_Split.f (k + 1) a0 a1) := by
  intro a0 a1 k
  have ih0 := batch_Split.mono_l k
  unfold batch_Split.f
  repeat' first
      | (with_reducible exact ih0 _ _ _)
      | (with_reducible exact batch_cut.mono _ _ _)
      | (with_reducible exact batch_twins.mono _ _)
      | (with_reducible exact LeO.refl _)
      | (with_reducible exact LeO.none _)
      | (with_reducible refine LeO.ite ?_ ?_)
      | (with_reducible refine LeO.bind ?_ (fun _ => ?_))
      | exact ih0 _ _ _
      | exact batch_cut.mono _ _ _
      | exact batch_twins.mono _ _
      | exact LeO.none _
      | refine LeO.ite ?_ ?_
      | refine LeO.bind ?_ (fun _ => ?_)
set_option maxHeartbeats 8000000 in
set_option maxRecDepth 100000 in
theorem batch_Split.calls (k : Nat) (P0_ : Nat → Prop) (A0 : Option Addr) (c0 : Nat) (l0 : List (S38)) (a1 : Int) (r : List (List (S38))) (w : World) (hs0 : Kd.V k38 38 w w.heap.size (fun k_ => P0_ k_) (.slice A0 l0.length c0) l0) (h : batch_Split.f k l0 a1 = some r) :
    Calls Try.prog 17 #[.slice A0 l0.length c0, .int .i64 a1] w fun e w' => ∃ v0_ : Value, e = .returned (v0_) ∧ Kd.R (Kd.slice 38 k38) 22 w' w.heap.size (fun k_ => (w.heap.size ≤ k_)) v0_ r ∧ Below w.heap.size w w' := by
  have HO0 := Aside0.mk (show Kd.V k38 38 w w.heap.size (fun k_ => (P0_ k_ ∨ w.heap.size ≤ k_)) (.slice A0 l0.length c0) l0 from Kd.V_mono hs0 (fun k_ hk => .inl hk))
  have HB := Aside0.mk (Below.refl w.heap.size w)
  have H : (batch_Split.l0 k l0 a1 ([] : List (List (S38)))) = some r := h
  clear h
  have H' := Aside0.mk H
  clear H
  go_enter Try.func17, Try.ntmps17
  go_wp2
  go_loopg [0, 5] k (fun kq v0 v5 w' => ∃ (x0_1 : List (S38)) (x5_1 : List (List (S38))), Aside0 (batch_Split.l0 kq x0_1 a1 x5_1 = some r) ∧ Aside0 (kq ≤ k) ∧ Aside0 (Kd.V k38 38 w' w.heap.size (fun k_ => (P0_ k_ ∨ w.heap.size ≤ k_) ∧ some k_ ≠ (v5 : Value).ownBlock) v0 x0_1) ∧ Aside0 (Kd.R (Kd.slice 38 k38) 22 w' w.heap.size (fun k_ => (w.heap.size ≤ k_)) v5 x5_1) ∧ Aside0 (Below w.heap.size w w'))
  case atStart => exact ⟨(l0), (([] : List (List (S38)))), H', ⟨Nat.le_refl _⟩, ⟨by (with_reducible repeat (first | apply Kd.V_alloc | apply Kd.V_drewN | apply Kd.V_drew)); exact Kd.V_mono HO0.out (fun _ hk => ⟨hk, (by simp [Value.ownBlock])⟩)⟩, ⟨by first | exact Kd.R_nil _ _ _ _ _ | exact Kd.N_nil _ _ _ _ _ | exact Kd.V_nil _ _ _ _ _ | exact Kd.Q_nil _ _ _ _ _ | exact Kd.S_nil _ _ _ _ _⟩, ⟨by repeat (first | (with_reducible first | exact HB.out | apply below_alloc | apply pw_below_drewN | apply below_drew1) | exact HB.out | exact Below.refl _ _)⟩⟩
  case round =>
    clear H'
    try clear c1
    try clear p2
    obtain ⟨x0_1, x5_1, HA, HK1, HO_0, HO_5, HB⟩ := hrel
    cases gk with
    | zero => exact absurd HA.out (by simp [batch_Split.l0])
    | succ k1 =>
      have H := HA.out
      clear HA
      simp only [batch_Split.l0] at H
      by_cases c3 : (x0_1.length : Int) > 0
      · rw [if_pos c3] at H
        have c3b0 : decide (0 < (x0_1.length : Int)) = true := decide_eq_true c3
        have c3b1 : decide (0 < x0_1.length) = true := decide_eq_true (by omega)
        clear c3
        replace H := Option.bind_eq_some_iff.mp H
        obtain ⟨t396, A40, H⟩ := H
        replace H : (if 0 ≤ t396 then (if t396 ≤ (x0_1.length : Int) then ((batch_twins.f k1 (x0_1.take (t396 : Int).toNat)).bind fun t402 => (if x5_1.length < 5864062014805 then (batch_Split.l0 k1 (x0_1.drop (t396 : Int).toNat) a1 (x5_1 ++ [t402])) else (none))) else (none)) else (none)) = some r := H
        have A4 := Aside0.mk A40
        clear A40
        by_cases c5 : 0 ≤ t396
        · rw [if_pos c5] at H
          have c5b0 := eq_true c5
          have c5b1 : decide (0 ≤ t396) = true := decide_eq_true c5
          clear c5
          by_cases c6 : t396 ≤ (x0_1.length : Int)
          · rw [if_pos c6] at H
            have c6b0 := eq_true c6
            have c6b1 : decide (t396 ≤ (x0_1.length : Int)) = true := decide_eq_true c6
            clear c6
            obtain ⟨y397, hy397⟩ : ∃ y_ : List (S38), y_ = (x0_1.take (t396 : Int).toNat) := ⟨_, rfl⟩
            replace H : ((batch_twins.f k1 y397).bind fun t402 => (if x5_1.length < 5864062014805 then (batch_Split.l0 k1 (x0_1.drop (t396 : Int).toNat) a1 (x5_1 ++ [t402])) else (none))) = some r := by first | (rw [hy397]; with_reducible exact H) | (have H2_ := (Option.bind_some _ _).symm.trans H; rw [hy397]; with_reducible exact H2_) | (have H2_ := (Option.bind_some _ _).symm.trans H; with_reducible exact H2_) | with_reducible exact H | (rw [hy397]; exact H) | exact H
            have Ny397 := Aside0.mk hy397
            clear hy397
            replace H := Option.bind_eq_some_iff.mp H
            obtain ⟨t402, A70, H⟩ := H
            replace H : (if x5_1.length < 5864062014805 then (batch_Split.l0 k1 (x0_1.drop (t396 : Int).toNat) a1 (x5_1 ++ [t402])) else (none)) = some r := H
            have A7 := Aside0.mk A70
            clear A70
            by_cases c8 : x5_1.length < 5864062014805
            · rw [if_pos c8] at H
              have LMc8 := Aside0.mk c8
              clear c8
              obtain ⟨y405, hy405⟩ : ∃ y_ : List (List (S38)), y_ = (x5_1 ++ [t402]) := ⟨_, rfl⟩
              replace H : (batch_Split.l0 k1 (x0_1.drop (t396 : Int).toNat) a1 y405) = some r := by first | (rw [hy405]; with_reducible exact H) | (have H2_ := (Option.bind_some _ _).symm.trans H; rw [hy405]; with_reducible exact H2_) | (have H2_ := (Option.bind_some _ _).symm.trans H; with_reducible exact H2_) | with_reducible exact H | (rw [hy405]; exact H) | exact H
              have Ny405 := Aside0.mk hy405
              clear hy405
              have c9b0 := eq_true (of_decide_eq_true (by first | (with_reducible assumption) | assumption) : 0 ≤ t396)
              have c10b0 := eq_true (of_decide_eq_true (by first | (with_reducible assumption) | assumption) : t396 ≤ (x0_1.length : Int))
              obtain ⟨y408, hy408⟩ : ∃ y_ : List (S38), y_ = (x0_1.drop (t396 : Int).toNat) := ⟨_, rfl⟩
              replace H : (batch_Split.l0 k1 y408 a1 y405) = some r := by first | (rw [hy408]; with_reducible exact H) | (have H2_ := (Option.bind_some _ _).symm.trans H; rw [hy408]; with_reducible exact H2_) | (have H2_ := (Option.bind_some _ _).symm.trans H; with_reducible exact H2_) | with_reducible exact H | (rw [hy408]; exact H) | exact H
              have Ny408 := Aside0.mk hy408
              clear hy408
              have H' := Aside0.mk H
              clear H
              obtain ⟨Ao11, co11, eo11⟩ := Kd.V_slice HO_0.out
              subst eo11
              go_wp2_with (first | ((with_reducible refine gate_callee (f := 29) rfl ?_); refine goesL_ (some 12) rfl rfl Try.func29 (by kernel_rfl) rfl #[.slice Ao11 x0_1.length co11, .int .i64 a1] rfl (by (try simp only [List.map_toArray, List.map_cons, List.map_nil]); first | done | rfl | (simp only [List.length_drop, List.length_take]; rfl)) ?_; (with_reducible refine (batch_cut.calls k1 _ _ x0_1 a1 t396 _ ?side1 ?side2 A4.out).mono ?_); (case side1 => repeat (first | exact (Kd.V_reads' HO_0.out).2.2 | (with_reducible refine Kd.C_alloc ?_ _) | (with_reducible refine Kd.C_drewN ?_ _) | (with_reducible refine Kd.C_drew ?_))); (case side2 => exact (Kd.V_reads' HO_0.out).2.1); rintro e w' ⟨rfl, ⟨nd, rfl⟩⟩; refine ⟨_, rfl, ?_⟩; have q12 : (t396 : Int) ≤ ((x0_1.length : Int) : Int) := of_decide_eq_true (by first | (with_reducible assumption) | assumption); obtain ⟨i012, hi012, _, hsz12, _⟩ := info_parts info38; have hroom12 : x0_1.length ≤ co11 := (Kd.V_reads' HO_0.out).2.1; have hC12 : Kd.F k38 _ _ Ao11 x0_1.length x0_1 := (Kd.V_at (base := w.heap.size) HO_0.out).2.2; have hcut12 := Ext.cut_to3 (P := Try.prog) 22 38 .i64 Try.underlying22 hi012 Ao11 x0_1.length co11 t396 (of_decide_eq_true (by first | (with_reducible assumption) | assumption)) q12 hroom12; have hr12 := Kd.F_take (m := (t396 : Int).toNat) hC12 (by omega); have hy12 : y397.length = (t396 : Int).toNat := (by rw [Ny397.out, List.length_take]; omega); rw [← Ny397.out] at hr12; rw [← hy12] at hcut12; have HO401 := Aside0.mk (show Kd.V k38 38 _ w.heap.size _ (.slice Ao11 y397.length y397.length) y397 from Kd.V_mk (by omega) hr12); have HC401 := Aside0.mk (show y397.length ≤ y397.length from by omega); clear hr12 hC12 hroom12 hi012 hsz12; have KY12 := Aside0.mk hy12; clear hy12; replace q12 := eq_true q12) | ((with_reducible refine gate_callee (f := 30) rfl ?_); refine goesL_ (some 18) rfl rfl Try.func30 (by kernel_rfl) rfl #[.slice Ao11 y397.length y397.length] rfl (by (try simp only [List.map_toArray, List.map_cons, List.map_nil]); first | done | rfl | (simp only [List.length_drop, List.length_take]; rfl)) ?_; (with_reducible refine (batch_twins.calls k1 _ _ y397 t402 _ ?side1 ?side2 A7.out).mono ?_); (case side1 => repeat (first | exact (Kd.V_reads' HO401.out).2.2 | (with_reducible refine Kd.C_alloc ?_ _) | (with_reducible refine Kd.C_drewN ?_ _) | (with_reducible refine Kd.C_drew ?_))); (case side2 => exact (Kd.V_reads' HO401.out).2.1); rintro e w13 ⟨v403, rfl, ho0, hb⟩; refine ⟨_, rfl, ?_⟩; have n0_ := Aside0.mk (Kd.V_elder' (by (with_reducible repeat (first | apply Kd.V_alloc | apply Kd.V_drewN | apply Kd.V_drew)); exact HO_0.out) (Kd.S_base ho0) hb); have n1_ := Aside0.mk (Kd.R_elder' (by (with_reducible repeat (first | apply Kd.R_alloc | apply Kd.R_drewN | apply Kd.R_drew)); exact HO_5.out) (Kd.S_base ho0) hb); have n2_ := Aside0.mk (Kd.V_elder' (by (with_reducible repeat (first | apply Kd.V_alloc | apply Kd.V_drewN | apply Kd.V_drew)); exact HO401.out) (Kd.S_base ho0) hb); have n3_ := Aside0.mk (Kd.S_lower (Kd.S_newM (M := fun k_ => (w.heap.size ≤ k_)) ho0 (below_size (by repeat (first | (with_reducible first | exact HB.out | apply below_alloc | apply pw_below_drewN | apply below_drew1) | exact HB.out | exact Below.refl _ _))) (fun k_ h_ => h_)) (below_size (by repeat (first | (with_reducible first | exact HB.out | apply below_alloc | apply pw_below_drewN | apply below_drew1) | exact HB.out | exact Below.refl _ _)))); have n4_ := Aside0.mk (below_step (by repeat (first | (with_reducible first | exact HB.out | apply below_alloc | apply pw_below_drewN | apply below_drew1) | exact HB.out | exact Below.refl _ _)) hb); clear HO_0; clear HO_5; clear HO401; clear HB; have HO_0 := n0_; have HO_5 := n1_; have HO401 := n2_; have HO404 := n3_; have HB := n4_; clear n0_ n1_ n2_ n3_ n4_; (try clear hb); (try clear hb2); (try clear hk); (try clear hi); (try clear ho0); obtain ⟨Ao15, co15, eo15⟩ := Kd.S_slice HO404.out; subst eo15) | ((with_reducible refine gate_builtin (b := .append) (xs := #[.tmp 13, .tmp 19]) rfl ?_); at_builtin; refine Kd.R_append (Kd.slice 38 k38) (w0 := w) w.heap.size rfl (.tmp 13) (.tmp 19) 33 22 (.slice none 0 0) 24 rfl Try.underlying33 info22 rfl (by decide) (by omega) u5 x5_1 t402 [.slice Ao15 t402.length co15] (fun k_ => (w.heap.size ≤ k_)) (fun k_ => ((fun k_ => (w.heap.size ≤ k_))) k_ ∧ some k_ ≠ (u5 : Value).ownBlock) rfl rfl ?aP (fun _ hk => hk) ?aF ?aO ?aB ?aS ?aL ?_; (case aP => exact Kd.M_row (Kd.R_mono (Kd.R_apart' ((Kd.S_R HO404.out)) (Kd.R_typed HO_5.out) (by decide)) (fun k_ hk => ⟨hk.1.1, hk.2⟩))); (case aB => exact (by repeat (first | (with_reducible first | exact HB.out | apply below_alloc | apply pw_below_drewN | apply below_drew1) | exact HB.out | exact Below.refl _ _))); (case aF => exact (fun k_ hk => (Nat.le_trans (below_size (by repeat (first | (with_reducible first | exact HB.out | apply below_alloc | apply pw_below_drewN | apply below_drew1) | exact HB.out | exact Below.refl _ _))) hk))); (case aO => exact (by (with_reducible repeat (first | apply Kd.R_alloc | apply Kd.R_drewN | apply Kd.R_drew)); exact Kd.R_mono HO_5.out (fun _ hk => hk.1))); (case aS => exact (below_size (by repeat (first | (with_reducible first | exact HB.out | apply below_alloc | apply pw_below_drewN | apply below_drew1) | exact HB.out | exact Below.refl _ _)))); (case aL => have := LMc8.out; omega); intro v406 w14 ho hb hg hat; rw [← Ny405.out] at ho; have n0_ := Aside0.mk (Kd.V_afterv (ok := (fun k_ => (P0_ k_ ∨ w.heap.size ≤ k_) ∧ some k_ ≠ (.slice Ao15 t402.length co15 : Value).ownBlock)) (by (with_reducible repeat (first | apply Kd.V_alloc | apply Kd.V_drewN | apply Kd.V_drew)); exact Kd.V_mono HO_0.out (fun _ hk => ⟨⟨hk.1.1, hk.2⟩, hk.1.2⟩)) hg hat); have n1_ := Aside0.mk (Kd.V_afterv (ok := (fun k_ => (P0_ k_ ∨ w.heap.size ≤ k_) ∧ some k_ ≠ (.slice Ao15 t402.length co15 : Value).ownBlock)) (by (with_reducible repeat (first | apply Kd.V_alloc | apply Kd.V_drewN | apply Kd.V_drew)); exact Kd.V_mono HO401.out (fun _ hk => ⟨⟨hk.1.1, hk.2⟩, hk.1.2⟩)) hg hat); have n2_ := Aside0.mk (hb); have n3_ := Aside0.mk (ho); clear HO_0; clear HO401; clear HB; clear HO_5; clear HO404; have HO_0 := n0_; have HO401 := n1_; have HB := n2_; have HO407 := n3_; clear n0_ n1_ n2_ n3_; clear ho hb hg hat; have q16 : (t396 : Int) ≤ ((x0_1.length : Int) : Int) := of_decide_eq_true (by first | (with_reducible assumption) | assumption); obtain ⟨i016, hi016, _, hsz16, _⟩ := info_parts info38; have hroom16 : x0_1.length ≤ co11 := (Kd.V_reads' HO_0.out).2.1; have hC16 : Kd.F k38 _ _ Ao11 x0_1.length x0_1 := (Kd.V_at (base := w.heap.size) HO_0.out).2.2; have q016 : (0 : Int) ≤ (t396 : Int) := of_decide_eq_true (by first | (with_reducible assumption) | assumption); have hcut16 := cut_from (P := Try.prog) 22 38 .i64 Try.underlying22 hi016 14 hsz16 Ao11 x0_1.length co11 t396 q016 q16; have hr16 := Kd.F_cut (m := (t396 : Int).toNat) (c := co11) hC16 (by omega) hroom16; obtain ⟨A16, hA16⟩ : ∃ A1, A1 = (if co11 = (t396 : Int).toNat then Ao11 else (Ao11 : Option Addr).map (·.add ((t396 : Int).toNat * 14))) := ⟨_, rfl⟩; obtain ⟨c16, hc16⟩ : ∃ c1, c1 = co11 - (t396 : Int).toNat := ⟨_, rfl⟩; have hy16 : y408.length = x0_1.length - (t396 : Int).toNat := (by rw [Ny408.out, List.length_drop] <;> omega); rw [show (x0_1).drop (t396 : Int).toNat = y408 from Ny408.out.symm] at hr16; replace hr16 : Kd.F k38 _ _ A16 y408.length y408 := (by rw [hA16]; exact hr16); rw [← hy16, ← hA16, ← hc16] at hcut16; have HO412 := Aside0.mk (show Kd.V k38 38 _ w.heap.size _ (.slice A16 y408.length c16) y408 from Kd.V_mk (by rw [hy16, hc16]; exact Nat.sub_le_sub_right hroom16 _) hr16); have HC412 := Aside0.mk (show y408.length ≤ c16 from by rw [hy16, hc16]; exact Nat.sub_le_sub_right hroom16 _); clear hr16 hC16 hroom16 hi016 hsz16 hc16; have KY16 := Aside0.mk hy16; have KA16 := Aside0.mk hA16; clear hy16 hA16; replace q16 := eq_true q16))
              go_roundg k1
              case measure => have := HK1.out; omega
              case rel => exact ⟨(y408), (y405), H', ⟨by have := HK1.out; omega⟩, ⟨by (with_reducible repeat (first | apply Kd.V_alloc | apply Kd.V_drewN | apply Kd.V_drew)); exact Kd.V_mono HO412.out (fun _ hk => ⟨hk.1.1, hk.2⟩)⟩, ⟨by (with_reducible repeat (first | apply Kd.R_alloc | apply Kd.R_drewN | apply Kd.R_drew)); exact HO407.out⟩, ⟨by repeat (first | (with_reducible first | exact HB.out | apply below_alloc | apply pw_below_drewN | apply below_drew1) | exact HB.out | exact Below.refl _ _)⟩⟩
            · rw [if_neg c8] at H
              exact absurd H (by simp)
          · rw [if_neg c6] at H
            exact absurd H (by simp)
        · rw [if_neg c5] at H
          exact absurd H (by simp)
      · rw [if_neg c3] at H
        have c3b0 : decide (0 < (x0_1.length : Int)) = false := decide_eq_false c3
        have c3b1 : decide (0 < x0_1.length) = false := decide_eq_false (by omega)
        clear c3
        obtain rfl := Option.some.inj H
        obtain ⟨Ao17, co17, eo17⟩ := Kd.V_slice HO_0.out
        subst eo17
        go_wp2
        go_ret
        exact ⟨_, by first | rfl | (simp [errW_none, errW_some] <;> rfl) | (simp [*, errW_none, errW_some] <;> rfl), by (with_reducible repeat (first | apply Kd.R_alloc | apply Kd.R_drewN | apply Kd.R_drew)); exact HO_5.out, by repeat (first | (with_reducible first | exact HB.out | apply below_alloc | apply pw_below_drewN | apply below_drew1) | exact HB.out | exact Below.refl _ _)⟩

end Go.Proofs.Ytdakdlgkhnjhoaa.PS
