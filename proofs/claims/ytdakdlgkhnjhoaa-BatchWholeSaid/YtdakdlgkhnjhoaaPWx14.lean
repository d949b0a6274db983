-- Written by wip/printx.py, a program of this work over the kit's print, for this claim.
import Derived.Test.YtdakdlgkhnjhoaaPWx0
import Derived.Test.YtdakdlgkhnjhoaaPWx1
import Derived.Test.YtdakdlgkhnjhoaaPWx4
import Derived.Test.YtdakdlgkhnjhoaaPWx13
namespace Go.Proofs.Ytdakdlgkhnjhoaa.PW
open Go.RowKit Go.Proofs.YtdakdlgkhnjhoaaW.PrintWords Go.Proofs.YtdakdlgkhnjhoaaW.PrintLast Go.Proofs.YtdakdlgkhnjhoaaW.PrintMore
attribute [local go_sem] max2_int min2_int max_two min_two max_three min_three max_four min_four   -- for this text's walks alone
attribute [local go_sem] Ext.pick_u8 Ext.pick_u32 Ext.pick_u64
set_option linter.unusedVariables false
set_option linter.unusedSimpArgs false



/-! ### batch_Right: function 15 -/
def batch_Right.f (k : Nat) (l0 : List (S38)) : Option (Bool) := (api_Event_27.f k l0).bind fun t227 => (some t227)
theorem batch_Right.mono : ∀ a0 k, LeO (batch_Right.f k a0) (batch_Right.f (k + 1) a0) := by
 intro a0 k
 unfold batch_Right.f
 repeat' first
   | (with_reducible exact api_Event_27.mono _ _)
   | (with_reducible exact LeO.refl _)
   | (with_reducible exact LeO.none _)
   | (with_reducible refine LeO.ite ?_ ?_)
   | (with_reducible refine LeO.bind ?_ (fun _ => ?_))
   | exact api_Event_27.mono _ _
   | exact LeO.none _
   | refine LeO.ite ?_ ?_
   | refine LeO.bind ?_ (fun _ => ?_)
set_option maxHeartbeats 8000000 in
set_option maxRecDepth 100000 in
theorem batch_Right.calls (k : Nat) (A0 : Option Addr) (c0 : Nat) (l0 : List (S38)) (r : Bool) (w : World) (hr0 : Kd.C k38 w A0 l0.length l0) (hc0 : l0.length ≤ c0) (h : batch_Right.f k l0 = some r) :
  Calls Try.prog 15 #[.slice A0 l0.length c0] w fun e w' => e = .returned (.bool r) ∧ Below w.heap.size w w' := by
 have HR0 := Aside0.mk hr0
 have HC0 := Aside0.mk hc0
 clear hr0 hc0
 have HB := Ext.a (Below.refl w.heap.size w)
 have H : ((api_Event_27.f k l0).bind fun t227 => (some t227)) = some r := h
 clear h
 replace H := Option.bind_eq_some_iff.mp H
 obtain ⟨t227, A20, H⟩ := H
 replace H : (some t227) = some r := H
 have A2 := Aside0.mk A20
 clear A20
 obtain rfl := Option.some.inj H
 go_enter Try.func15, Try.ntmps15
 go_wp2_with (first | ((with_reducible refine gate_callee (f := 27) rfl ?_); refine goesL_ (some 4) rfl rfl Try.func27 (by kernel_rfl) rfl #[.slice A0 l0.length c0, .func (.func 28) #[] #[]] rfl (by (try simp only [List.map_toArray, List.map_cons, List.map_nil]); first | done | rfl | (simp only [List.length_drop, List.length_take]; rfl)) ?_; (with_reducible refine (api_Event_27.calls k _ _ l0  t227 _ ?side1 ?side2 A2.out).mono ?_); (case side1 => repeat (first | exact HR0.out | exact HR0.out | (with_reducible refine Kd.C_alloc ?_ _) | (with_reducible refine Kd.C_drewN ?_ _) | (with_reducible refine Kd.C_drew ?_))); (case side2 => exact HC0.out); rintro e w3 ⟨rfl, hb⟩; refine ⟨_, rfl, ?_⟩; have n0_ := Ext.a (below_step (Ext.nB HB.out) hb); clear HB; have HB := n0_; clear n0_; (try clear hb); (try clear hb2); (try clear hk); (try clear hi)))
 go_ret
 exact ⟨by first | rfl | (simp [errW_none, errW_some] <;> rfl) | (simp [*, errW_none, errW_some] <;> rfl), by repeat (first | (with_reducible first | exact HB.out | apply Ext.ba | apply Ext.bn | apply Ext.bd) | exact HB.out | exact .refl _ _)⟩


@[reducible] def ok17_0 (w0 : World)  : Nat → Prop := fun k_ => (w0.heap.size ≤ k_)
@[reducible] def ok17_1 (p0 : Nat → Prop) (w1 : World)  : Nat → Prop := fun k_ => (p0 k_ ∨ w1.heap.size ≤ k_)
@[reducible] def ok17_2 (p0 : Nat → Prop) (w1 : World) (v0 : Value) : Nat → Prop := fun k_ => (p0 k_ ∨ w1.heap.size ≤ k_) ∧ some k_ ≠ v0.ownBlock
/-! ### batch_Split: function 17 -/
def batch_Split.l0 : Nat → List (S38) → Int → List (List (S38)) → Option ((List (List (S38))))
 | 0, _, _, _ => none
 | k + 1, x0, x1, x5 => if (x0.length : Int) > 0 then ((batch_cut.f k x0 x1).bind fun t228 => (if 0 ≤ t228 then (if t228 ≤ (x0.length : Int) then ((batch_twins.f k (x0.take (t228 : Int).toNat)).bind fun t234 => (if x5.length < 5864062014805 then (batch_Split.l0 k (x0.drop (t228 : Int).toNat) x1 (x5 ++ [t234])) else (none))) else (none)) else (none))) else (some x5)
def batch_Split.f (k : Nat) (l0 : List (S38)) (a1 : Int) : Option ((List (List (S38)))) := batch_Split.l0 k l0 a1 ([] : List (List (S38)))
theorem batch_Split.mono_l : ∀ k, (∀ y0 y1 y2, LeO (batch_Split.l0 k y0 y1 y2) (batch_Split.l0 (k + 1) y0 y1 y2))
 | 0 => fun _ _ _ r h => by simp [batch_Split.l0] at h
 | k + 1 => by
  have ih0 := batch_Split.mono_l k
  ·
   intro y0 y1 y2
   unfold batch_Split.l0
   repeat' first
   | (with_reducible exact ih0 _ _ _)
   | (with_reducible exact batch_cut.mono _ _ _)
   | (with_reducible exact batch_twins.mono _ _)
   | (with_reducible exact LeO.refl _)
   | (with_reducible exact LeO.none _)
   | (with_reducible refine LeO.ite ?_ ?_)
   | (with_reducible refine LeO.bind ?_ (fun _ => ?_))
   | exact ih0 _ _ _
   | exact batch_cut.mono _ _ _
   | exact batch_twins.mono _ _
   | exact LeO.none _
   | refine LeO.ite ?_ ?_
   | refine LeO.bind ?_ (fun _ => ?_)
theorem batch_Split.mono : ∀ a0 a1 k, LeO (batch_Split.f k a0 a1) (batch_Split.f (k + 1) a0 a1) := by
 intro a0 a1 k
 have ih0 := batch_Split.mono_l k
 unfold batch_Split.f
 repeat' first
   | (with_reducible exact ih0 _ _ _)
   | (with_reducible exact batch_cut.mono _ _ _)
   | (with_reducible exact batch_twins.mono _ _)
   | (with_reducible exact LeO.refl _)
   | (with_reducible exact LeO.none _)
   | (with_reducible refine LeO.ite ?_ ?_)
   | (with_reducible refine LeO.bind ?_ (fun _ => ?_))
   | exact ih0 _ _ _
   | exact batch_cut.mono _ _ _
   | exact batch_twins.mono _ _
   | exact LeO.none _
   | refine LeO.ite ?_ ?_
   | refine LeO.bind ?_ (fun _ => ?_)
set_option maxHeartbeats 8000000 in
set_option maxRecDepth 100000 in
theorem batch_Split.calls (k : Nat) (P0_ : Nat → Prop) (A0 : Option Addr) (c0 : Nat) (l0 : List (S38)) (a1 : Int) (r : List (List (S38))) (w : World) (hs0 : Kd.V k38 38 w w.heap.size (fun k_ => P0_ k_) (.slice A0 l0.length c0) l0) (h : batch_Split.f k l0 a1 = some r) :
  Calls Try.prog 17 #[.slice A0 l0.length c0, .int .i64 a1] w fun e w' => ∃ v0_ : Value, e = .returned (v0_) ∧ Kd.R (Kd.slice 38 k38) 22 w' w.heap.size (ok17_0 w) v0_ r ∧ Below w.heap.size w w' := by
 have HO0 := Ext.a (show Kd.V k38 38 w w.heap.size (ok17_1 P0_ w) (.slice A0 l0.length c0) l0 from Kd.V_mono hs0 (fun k_ hk => .inl hk))
 have HB := Ext.a (Below.refl w.heap.size w)
 have H : (batch_Split.l0 k l0 a1 ([] : List (List (S38)))) = some r := h
 clear h
 have H' := Aside0.mk H
 clear H
 go_enter Try.func17, Try.ntmps17
 go_wp2
 go_loopg [0, 5] k (fun kq v0 v5 w' => ∃ (x0_1 : List (S38)) (x5_1 : List (List (S38))), Aside0 (batch_Split.l0 kq x0_1 a1 x5_1 = some r) ∧ Aside0 (kq ≤ k) ∧ Aside0 (Kd.V k38 38 w' w.heap.size (ok17_2 P0_ w v5) v0 x0_1) ∧ Aside0 (Kd.R (Kd.slice 38 k38) 22 w' w.heap.size (ok17_0 w) v5 x5_1) ∧ Aside0 (Below w.heap.size w w'))
 case atStart => exact ⟨(l0), (([] : List (List (S38)))), H', ⟨Nat.le_refl _⟩, ⟨by (with_reducible repeat (first | apply Kd.V_alloc | apply Kd.V_drewN | apply Kd.V_drew)); exact Kd.V_mono HO0.out (fun _ hk => ⟨hk, (by simp [Value.ownBlock])⟩)⟩, ⟨by first | exact Kd.R_nil _ _ _ _ _ | exact Kd.N_nil _ _ _ _ _ | exact Kd.V_nil _ _ _ _ _ | exact Kd.Q_nil _ _ _ _ _ | exact Kd.S_nil _ _ _ _ _⟩, ⟨by repeat (first | (with_reducible first | exact HB.out | apply Ext.ba | apply Ext.bn | apply Ext.bd) | exact HB.out | exact .refl _ _)⟩⟩
 case round =>
  clear H'
  try clear c1
  try clear p2
  obtain ⟨x0_1, x5_1, HA, HK1, HO_0, HO_5, HB⟩ := hrel
  cases gk with
  | zero => exact absurd HA.out (by simp [batch_Split.l0])
  | succ k1 =>
   have H := HA.out
   clear HA
   simp only [batch_Split.l0] at H
   by_cases c3 : (x0_1.length : Int) > 0
   ·
    rw [if_pos c3] at H
    have c3b0 : decide (0 < (x0_1.length : Int)) = true := decide_eq_true c3
    have c3b1 : decide (0 < x0_1.length) = true := decide_eq_true (by omega)
    clear c3
    replace H := Option.bind_eq_some_iff.mp H
    obtain ⟨t228, A40, H⟩ := H
    replace H : (if 0 ≤ t228 then (if t228 ≤ (x0_1.length : Int) then ((batch_twins.f k1 (x0_1.take (t228 : Int).toNat)).bind fun t234 => (if x5_1.length < 5864062014805 then (batch_Split.l0 k1 (x0_1.drop (t228 : Int).toNat) a1 (x5_1 ++ [t234])) else (none))) else (none)) else (none)) = some r := H
    have A4 := Aside0.mk A40
    clear A40
    by_cases c5 : 0 ≤ t228
    ·
     rw [if_pos c5] at H
     have c5b0 := eq_true c5
     have c5b1 : decide (0 ≤ t228) = true := decide_eq_true c5
     clear c5
     by_cases c6 : t228 ≤ (x0_1.length : Int)
     ·
      rw [if_pos c6] at H
      have c6b0 := eq_true c6
      have c6b1 : decide (t228 ≤ (x0_1.length : Int)) = true := decide_eq_true c6
      clear c6
      obtain ⟨y229, hy229⟩ : ∃ y_ : List (S38), y_ = (x0_1.take (t228 : Int).toNat) := ⟨_, rfl⟩
      replace H : ((batch_twins.f k1 y229).bind fun t234 => (if x5_1.length < 5864062014805 then (batch_Split.l0 k1 (x0_1.drop (t228 : Int).toNat) a1 (x5_1 ++ [t234])) else (none))) = some r := by first | (rw [hy229]; with_reducible exact H) | (have H2_ := (Option.bind_some _ _).symm.trans H; rw [hy229]; with_reducible exact H2_) | (have H2_ := (Option.bind_some _ _).symm.trans H; with_reducible exact H2_) | with_reducible exact H | (rw [hy229]; exact H) | exact H
      have Ny229 := Aside0.mk hy229
      clear hy229
      replace H := Option.bind_eq_some_iff.mp H
      obtain ⟨t234, A70, H⟩ := H
      replace H : (if x5_1.length < 5864062014805 then (batch_Split.l0 k1 (x0_1.drop (t228 : Int).toNat) a1 (x5_1 ++ [t234])) else (none)) = some r := H
      have A7 := Aside0.mk A70
      clear A70
      by_cases c8 : x5_1.length < 5864062014805
      ·
       rw [if_pos c8] at H
       have LMc8 := Aside0.mk c8
       clear c8
       obtain ⟨y237, hy237⟩ : ∃ y_ : List (List (S38)), y_ = (x5_1 ++ [t234]) := ⟨_, rfl⟩
       replace H : (batch_Split.l0 k1 (x0_1.drop (t228 : Int).toNat) a1 y237) = some r := by first | (rw [hy237]; with_reducible exact H) | (have H2_ := (Option.bind_some _ _).symm.trans H; rw [hy237]; with_reducible exact H2_) | (have H2_ := (Option.bind_some _ _).symm.trans H; with_reducible exact H2_) | with_reducible exact H | (rw [hy237]; exact H) | exact H
       have Ny237 := Aside0.mk hy237
       clear hy237
       have c9b0 := eq_true (of_decide_eq_true (by first | (with_reducible assumption) | assumption) : 0 ≤ t228)
       have c10b0 := eq_true (of_decide_eq_true (by first | (with_reducible assumption) | assumption) : t228 ≤ (x0_1.length : Int))
       obtain ⟨y240, hy240⟩ : ∃ y_ : List (S38), y_ = (x0_1.drop (t228 : Int).toNat) := ⟨_, rfl⟩
       replace H : (batch_Split.l0 k1 y240 a1 y237) = some r := by first | (rw [hy240]; with_reducible exact H) | (have H2_ := (Option.bind_some _ _).symm.trans H; rw [hy240]; with_reducible exact H2_) | (have H2_ := (Option.bind_some _ _).symm.trans H; with_reducible exact H2_) | with_reducible exact H | (rw [hy240]; exact H) | exact H
       have Ny240 := Aside0.mk hy240
       clear hy240
       have H' := Aside0.mk H
       clear H
       obtain ⟨Ao11, co11, eo11⟩ := Kd.V_slice HO_0.out
       subst eo11
       go_wp2_with (first | ((with_reducible refine gate_callee (f := 29) rfl ?_); refine goesL_ (some 12) rfl rfl Try.func29 (by kernel_rfl) rfl #[.slice Ao11 x0_1.length co11, .int .i64 a1] rfl (by (try simp only [List.map_toArray, List.map_cons, List.map_nil]); first | done | rfl | (simp only [List.length_drop, List.length_take]; rfl)) ?_; (with_reducible refine (batch_cut.calls k1 _ _ x0_1 a1 t228 _ ?side1 ?side2 A4.out).mono ?_); (case side1 => exact Ext.nC (Kd.V_reads' HO_0.out).2.2); (case side2 => exact (Kd.V_reads' HO_0.out).2.1); rintro e w' ⟨rfl, ⟨nd, rfl⟩⟩; refine ⟨_, rfl, ?_⟩; have q12 : (t228 : Int) ≤ ((x0_1.length : Int) : Int) := of_decide_eq_true (by first | (with_reducible assumption) | assumption); obtain ⟨i012, hi012, _, hsz12, _⟩ := info_parts info38; have hroom12 : x0_1.length ≤ co11 := (Kd.V_reads' HO_0.out).2.1; have hC12 : Kd.F k38 _ _ Ao11 x0_1.length x0_1 := (Kd.V_at (base := w.heap.size) HO_0.out).2.2; have hcut12 := Ext.cut_to3 (P := Try.prog) 22 38 .i64 Try.underlying22 hi012 Ao11 x0_1.length co11 t228 (of_decide_eq_true (by first | (with_reducible assumption) | assumption)) q12 hroom12; have hr12 := Kd.F_take (m := (t228 : Int).toNat) hC12 (by omega); have hy12 : y229.length = (t228 : Int).toNat := (by rw [Ny229.out, List.length_take]; omega); rw [← Ny229.out] at hr12; rw [← hy12] at hcut12; have HO233 := Ext.a (show Kd.V k38 38 _ w.heap.size _ (.slice Ao11 y229.length y229.length) y229 from Kd.V_mk (by omega) hr12); have HC233 := Ext.a (show y229.length ≤ y229.length from by omega); clear hr12 hC12 hroom12 hi012 hsz12; have KY12 := Aside0.mk hy12; clear hy12; replace q12 := eq_true q12) | ((with_reducible refine gate_callee (f := 30) rfl ?_); refine goesL_ (some 18) rfl rfl Try.func30 (by kernel_rfl) rfl #[.slice Ao11 y229.length y229.length] rfl (by (try simp only [List.map_toArray, List.map_cons, List.map_nil]); first | done | rfl | (simp only [List.length_drop, List.length_take]; rfl)) ?_; (with_reducible refine (batch_twins.calls k1 _ _ y229 t234 _ ?side1 ?side2 A7.out).mono ?_); (case side1 => exact Ext.nC (Kd.V_reads' HO233.out).2.2); (case side2 => exact (Kd.V_reads' HO233.out).2.1); rintro e w13 ⟨v235, rfl, ho0, hb⟩; refine ⟨_, rfl, ?_⟩; have n0_ := Ext.a (Kd.V_elder' (Ext.nV HO_0.out) (Kd.S_base ho0) hb); have n1_ := Ext.a (Kd.R_elder' (Ext.nR HO_5.out) (Kd.S_base ho0) hb); have n2_ := Ext.a (Kd.V_elder' (Ext.nV HO233.out) (Kd.S_base ho0) hb); have n3_ := Ext.a (Kd.S_lower (Kd.S_newM (M := fun k_ => (w.heap.size ≤ k_)) ho0 (below_size (Ext.nB HB.out)) (fun k_ h_ => h_)) (below_size (Ext.nB HB.out))); have n4_ := Ext.a (below_step (Ext.nB HB.out) hb); clear HO_0 HO_5 HO233 HB; have HO_0 := n0_; have HO_5 := n1_; have HO233 := n2_; have HO236 := n3_; have HB := n4_; clear n0_ n1_ n2_ n3_ n4_; (try clear hb); (try clear hb2); (try clear hk); (try clear hi); (try clear ho0); obtain ⟨Ao15, co15, eo15⟩ := Kd.S_slice HO236.out; subst eo15) | ((with_reducible refine gate_builtin (b := .append) (xs := #[.tmp 13, .tmp 19]) rfl ?_); at_builtin; refine Kd.R_append (Kd.slice 38 k38) (w0 := w) w.heap.size rfl (.tmp 13) (.tmp 19) 33 22 (.slice none 0 0) 24 rfl Try.underlying33 info22 rfl (by decide) (by omega) u5 x5_1 t234 [.slice Ao15 t234.length co15] (ok17_0 w) (fun k_ => ((ok17_0 w)) k_ ∧ some k_ ≠ (u5 : Value).ownBlock) rfl rfl ?aP (fun _ hk => hk) ?aF ?aO ?aB ?aS ?aL ?_; (case aP => exact Kd.M_row (Kd.R_mono (Kd.R_apart' ((Kd.S_R HO236.out)) (Kd.R_typed HO_5.out) (by decide)) (fun k_ hk => ⟨hk.1.1, hk.2⟩))); (case aB => exact (Ext.nB HB.out)); (case aF => exact (fun k_ hk => (Nat.le_trans (below_size (Ext.nB HB.out)) hk))); (case aO => exact (Ext.nR (Kd.R_mono HO_5.out (fun _ hk => hk.1)))); (case aS => exact (below_size (Ext.nB HB.out))); (case aL => have := LMc8.out; omega); intro v238 w14 ho hb hg hat; rw [← Ny237.out] at ho; have n0_ := Ext.a (Kd.V_afterv (ok := (ok17_2 P0_ w (.slice Ao15 t234.length co15))) (Ext.nV (Kd.V_mono HO_0.out (fun _ hk => ⟨⟨hk.1.1, hk.2⟩, hk.1.2⟩))) hg hat); have n1_ := Ext.a (Kd.V_afterv (ok := (ok17_2 P0_ w (.slice Ao15 t234.length co15))) (Ext.nV (Kd.V_mono HO233.out (fun _ hk => ⟨⟨hk.1.1, hk.2⟩, hk.1.2⟩))) hg hat); have n2_ := Ext.a (hb); have n3_ := Ext.a (ho); clear HO_0 HO233 HB HO_5 HO236; have HO_0 := n0_; have HO233 := n1_; have HB := n2_; have HO239 := n3_; clear n0_ n1_ n2_ n3_; clear ho hb hg hat; have q16 : (t228 : Int) ≤ ((x0_1.length : Int) : Int) := of_decide_eq_true (by first | (with_reducible assumption) | assumption); obtain ⟨i016, hi016, _, hsz16, _⟩ := info_parts info38; have hroom16 : x0_1.length ≤ co11 := (Kd.V_reads' HO_0.out).2.1; have hC16 : Kd.F k38 _ _ Ao11 x0_1.length x0_1 := (Kd.V_at (base := w.heap.size) HO_0.out).2.2; have q016 : (0 : Int) ≤ (t228 : Int) := of_decide_eq_true (by first | (with_reducible assumption) | assumption); have hcut16 := cut_from (P := Try.prog) 22 38 .i64 Try.underlying22 hi016 14 hsz16 Ao11 x0_1.length co11 t228 q016 q16; have hr16 := Kd.F_cut (m := (t228 : Int).toNat) (c := co11) hC16 (by omega) hroom16; obtain ⟨A16, hA16⟩ : ∃ A1, A1 = (if co11 = (t228 : Int).toNat then Ao11 else (Ao11 : Option Addr).map (·.add ((t228 : Int).toNat * 14))) := ⟨_, rfl⟩; obtain ⟨c16, hc16⟩ : ∃ c1, c1 = co11 - (t228 : Int).toNat := ⟨_, rfl⟩; have hy16 : y240.length = x0_1.length - (t228 : Int).toNat := (by rw [Ny240.out, List.length_drop] <;> omega); rw [show (x0_1).drop (t228 : Int).toNat = y240 from Ny240.out.symm] at hr16; replace hr16 : Kd.F k38 _ _ A16 y240.length y240 := (by rw [hA16]; exact hr16); rw [← hy16, ← hA16, ← hc16] at hcut16; have HO244 := Ext.a (show Kd.V k38 38 _ w.heap.size _ (.slice A16 y240.length c16) y240 from Kd.V_mk (by rw [hy16, hc16]; exact Nat.sub_le_sub_right hroom16 _) hr16); have HC244 := Ext.a (show y240.length ≤ c16 from by rw [hy16, hc16]; exact Nat.sub_le_sub_right hroom16 _); clear hr16 hC16 hroom16 hi016 hsz16 hc16; have KY16 := Aside0.mk hy16; have KA16 := Aside0.mk hA16; clear hy16 hA16; replace q16 := eq_true q16))
       go_roundg k1
       case measure => have := HK1.out; omega
       case rel => exact ⟨(y240), (y237), H', ⟨by have := HK1.out; omega⟩, ⟨by (with_reducible repeat (first | apply Kd.V_alloc | apply Kd.V_drewN | apply Kd.V_drew)); exact Kd.V_mono HO244.out (fun _ hk => ⟨hk.1.1, hk.2⟩)⟩, ⟨by (with_reducible repeat (first | apply Kd.R_alloc | apply Kd.R_drewN | apply Kd.R_drew)); exact HO239.out⟩, ⟨by repeat (first | (with_reducible first | exact HB.out | apply Ext.ba | apply Ext.bn | apply Ext.bd) | exact HB.out | exact .refl _ _)⟩⟩
      · rw [if_neg c8] at H; exact absurd H (by simp)
     · rw [if_neg c6] at H; exact absurd H (by simp)
    · rw [if_neg c5] at H; exact absurd H (by simp)
   ·
    rw [if_neg c3] at H
    have c3b0 : decide (0 < (x0_1.length : Int)) = false := decide_eq_false c3
    have c3b1 : decide (0 < x0_1.length) = false := decide_eq_false (by omega)
    clear c3
    obtain rfl := Option.some.inj H
    obtain ⟨Ao17, co17, eo17⟩ := Kd.V_slice HO_0.out
    subst eo17
    go_wp2
    go_ret
    exact ⟨_, by first | rfl | (simp [errW_none, errW_some] <;> rfl) | (simp [*, errW_none, errW_some] <;> rfl), by (with_reducible repeat (first | apply Kd.R_alloc | apply Kd.R_drewN | apply Kd.R_drew)); exact HO_5.out, by repeat (first | (with_reducible first | exact HB.out | apply Ext.ba | apply Ext.bn | apply Ext.bd) | exact HB.out | exact .refl _ _)⟩

/-! ### what is known of a struct of type 36 that came in -/
def ok36 (x : S36) : Prop := Open.okSlice (fun y_ => (Lit.int .u8 y_).wf = true) 1 x.f0 ∧ Open.okSlice (fun y_ => (Lit.int .u8 y_).wf = true) 1 x.f1 ∧ (Lit.int .i64 x.f2).wf = true ∧ (Lit.int .i64 x.f3).wf = true ∧ (Lit.int .i64 x.f4).wf = true ∧ (Lit.int .i64 x.f5).wf = true
set_option maxRecDepth 100000 in
theorem opens36 : Open.Opens Try.prog 36 k36 ok36 := by
  intro H enc W base spare held fuel cs x h hw
  obtain ⟨xs, n, _, rfl, hl, hlen, hf⟩ := DataW.trod_struct Try.underlying36 h
  have hl' : cs.length = 6 := hl.trans (by kernel_rfl)
  obtain ⟨y0, K0, o0⟩ := Open.field_at (o := 0) (s := 1) (i := 0) Try.underlying36 rfl (Open.opens_slice Try.underlying26 (Open.opens_int Try.underlying5) (by kernel_rfl) (by kernel_rfl)) (by kernel_rfl) rfl hlen hf hw
  obtain ⟨y1, K1, o1⟩ := Open.field_at (o := 1) (s := 1) (i := 1) Try.underlying36 rfl (Open.opens_slice Try.underlying26 (Open.opens_int Try.underlying5) (by kernel_rfl) (by kernel_rfl)) (by kernel_rfl) rfl hlen hf hw
  obtain ⟨y2, K2, o2⟩ := Open.field_at (o := 2) (s := 1) (i := 2) Try.underlying36 rfl (Open.opens_int Try.underlying2) (by kernel_rfl) rfl hlen hf hw
  obtain ⟨y3, K3, o3⟩ := Open.field_at (o := 3) (s := 1) (i := 3) Try.underlying36 rfl (Open.opens_int Try.underlying2) (by kernel_rfl) rfl hlen hf hw
  obtain ⟨y4, K4, o4⟩ := Open.field_at (o := 4) (s := 1) (i := 4) Try.underlying36 rfl (Open.opens_int Try.underlying2) (by kernel_rfl) rfl hlen hf hw
  obtain ⟨y5, K5, o5⟩ := Open.field_at (o := 5) (s := 1) (i := 5) Try.underlying36 rfl (Open.opens_int Try.underlying2) (by kernel_rfl) rfl hlen hf hw
  have z : k36.K W (⟨y0, y1, y2, y3, y4, y5⟩ : S36) (cs.drop 0) := (Open.pair_piece (o := 0) (s := 1) (o' := 1) rfl K0 (Open.pair_piece (o := 1) (s := 1) (o' := 2) rfl K1 (Open.pair_piece (o := 2) (s := 1) (o' := 3) rfl K2 (Open.pair_piece (o := 3) (s := 1) (o' := 4) rfl K3 (Open.pair_piece (o := 4) (s := 1) (o' := 5) rfl K4 (Open.last_piece (o := 5) (s := 1) hl' K5))))))
  rw [List.drop_zero] at z
  exact ⟨_, z, o0, o1, o2, o3, o4, o5⟩

/-! ### what is known of a struct of type 38 that came in -/
def ok38 (x : S38) : Prop := (Lit.int .i64 x.f0).wf = true ∧ ok36 x.f1 ∧ True ∧ ok36 x.f3
set_option maxRecDepth 100000 in
theorem opens38 : Open.Opens Try.prog 38 k38 ok38 := by
  intro H enc W base spare held fuel cs x h hw
  obtain ⟨xs, n, _, rfl, hl, hlen, hf⟩ := DataW.trod_struct Try.underlying38 h
  have hl' : cs.length = 14 := hl.trans (by kernel_rfl)
  obtain ⟨y0, K0, o0⟩ := Open.field_at (o := 0) (s := 1) (i := 0) Try.underlying38 rfl (Open.opens_int Try.underlying3) (by kernel_rfl) rfl hlen hf hw
  obtain ⟨y1, K1, o1⟩ := Open.field_at (o := 1) (s := 6) (i := 1) Try.underlying38 rfl opens36 (by kernel_rfl) rfl hlen hf hw
  obtain ⟨y2, K2, o2⟩ := Open.field_at (o := 7) (s := 1) (i := 2) Try.underlying38 rfl (Open.opens_bool Try.underlying4) (by kernel_rfl) rfl hlen hf hw
  obtain ⟨y3, K3, o3⟩ := Open.field_at (o := 8) (s := 6) (i := 3) Try.underlying38 rfl opens36 (by kernel_rfl) rfl hlen hf hw
  have z : k38.K W (⟨y0, y1, y2, y3⟩ : S38) (cs.drop 0) := (Open.pair_piece (o := 0) (s := 1) (o' := 1) rfl K0 (Open.pair_piece (o := 1) (s := 6) (o' := 7) rfl K1 (Open.pair_piece (o := 7) (s := 1) (o' := 8) rfl K2 (Open.last_piece (o := 8) (s := 6) hl' K3))))
  rw [List.drop_zero] at z
  exact ⟨_, z, o0, o1, o2, o3⟩

end Go.Proofs.Ytdakdlgkhnjhoaa.PW
