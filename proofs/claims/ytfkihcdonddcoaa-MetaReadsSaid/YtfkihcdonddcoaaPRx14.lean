-- Written by wip/printx.py, a program of this work over the kit's print, for this claim.
import Derived.Test.YtfkihcdonddcoaaPRx0
import Derived.Test.YtfkihcdonddcoaaPRx2
import Derived.Test.YtfkihcdonddcoaaPRx10
import Derived.Test.YtfkihcdonddcoaaPRx11
import Derived.Test.YtfkihcdonddcoaaPRx13
namespace Go.Proofs.Ytfkihcdonddcoaa.PR
open Go.RowKit Go.Proofs.YtfkihcdonddcoaaW.PrintWords Go.Proofs.YtfkihcdonddcoaaW.PrintLast Go.Proofs.YtfkihcdonddcoaaW.PrintMore
attribute [local go_sem] max2_int min2_int max_two min_two max_three min_three max_four min_four   -- for this text's walks alone
attribute [local go_sem] Ext.pick_u8 Ext.pick_u32 Ext.pick_u64
set_option linter.unusedVariables false
set_option linter.unusedSimpArgs false

attribute [local go_sem high] eqA31
@[reducible] def zb4_0 : Array Bool := #[false, false, false, false, false, false, false, false, false, false, false, false, false, false, false]
@[reducible] def zb4_1 : Array Bool := #[true, false, false, false, false, false, false, false, false, false, false, false, false, false, false]
@[reducible] def zb4_2 : Array Bool := #[true, false, true, false, false, false, false, false, false, false, false, false, false, false, false]
@[reducible] def zb4_3 : Array Bool := #[true, true, true, false, false, false, false, false, false, false, false, false, false, false, false]
@[reducible] def zb4_4 : Array Bool := #[true, true, true, true, false, false, false, false, false, false, false, false, false, false, false]
@[reducible] def zb4_5 : Array Bool := #[true, true, true, true, true, false, false, false, false, false, false, false, false, false, false]
@[reducible] def zb4_6 : Array Bool := #[true, true, true, true, true, true, false, false, false, false, false, false, false, false, false]
@[reducible] def zb4_7 : Array Bool := #[true, true, true, true, true, true, true, false, false, false, false, false, false, false, false]
@[reducible] def zb4_8 : Array Bool := #[true, true, true, true, true, true, true, true, false, false, false, false, false, false, false]
@[reducible] def zb4_9 : Array Bool := #[true, true, true, true, true, true, true, true, true, false, false, false, false, false, false]
@[reducible] def zb4_10 : Array Bool := #[true, true, true, true, true, true, true, true, true, true, false, false, false, false, false]
@[reducible] def zb4_11 : Array Bool := #[true, true, true, true, true, true, true, true, true, true, true, false, false, false, false]
@[reducible] def zb4_12 : Array Bool := #[true, true, true, true, true, true, true, true, true, true, true, true, false, false, false]
@[reducible] def zb4_13 : Array Bool := #[true, true, true, true, true, true, true, true, true, true, true, true, true, false, false]
@[reducible] def zb4_14 : Array Bool := #[true, true, true, true, true, true, true, true, true, true, true, true, true, true, false]
@[reducible] def zb4_15 : Array Bool := #[true, true, true, true, true, true, true, true, true, true, true, true, true, true, true]
@[reducible] def ok4_0 (p0 : Nat → Prop) (w1 : World)  : Nat → Prop := fun k_ => (p0 k_ ∨ w1.heap.size ≤ k_)
@[reducible] def ok4_1 (p0 : Nat → Prop) (w1 : World) (v0 : Value) (v1 : Nat) (v2 : Nat) : Nat → Prop := fun k_ => (p0 k_ ∨ w1.heap.size ≤ k_) ∧ some k_ ≠ v0.ownBlock ∧ k_ ≠ v1 ∧ k_ ≠ v2
@[reducible] def ok4_2 (w0 : World)  : Nat → Prop := fun k_ => (w0.heap.size ≤ k_)
/-! ### terrierlaw05_MetaReads: function 4 -/
mutual
def terrierlaw05_MetaReads.j0 : Nat → List Int → Bool → Bool → Option (Bool)
 | 0, _, _, _ => none
 | k + 1, x0, x1, x16 => if x16 = true then ((terrierlaw05_lives.f k).bind fun t290 => (some t290)) else (if x1 = true then ((terrierref02_Seal.f k x0).bind fun t291 => (terrierlaw05_MetaReads.j1 k t291)) else (terrierlaw05_MetaReads.j1 k x0))
def terrierlaw05_MetaReads.j1 : Nat → List Int → Option (Bool)
 | 0, _ => none
 | k + 1, x0 => (terrierref01_Twin.f x0).bind fun t294 => ((meta_Decode.f k t294).bind fun bt297 => ((terrierref05_Decode.f k x0).bind fun bt303 => ((terrierlaw05_of.f bt297.1 bt297.2.1 bt297.2.2.1 bt297.2.2.2.1).bind fun bt309 => (if (bt309.1 == bt303.1 && (bt309.2.1 == bt303.2.1 && (bt309.2.2.1 == bt303.2.2.1 && (bt309.2.2.2 == bt303.2.2.2.1)))) = true then (if bt297.2.2.2.2 = bt303.2.2.2.2 then ((terrierref01_Same.f t294 x0).bind fun t313 => (some t313)) else (some false)) else (some false)))))
end
def terrierlaw05_MetaReads.f (k : Nat) (l0 : List Int) (a1 : Bool) : Option (Bool) := (terrierlaw05_lives.f k).bind fun t289 => (if t289 = true then (terrierlaw05_MetaReads.j0 k l0 a1 (decide ((l0.length : Int) > 1000))) else (terrierlaw05_MetaReads.j0 k l0 a1 true))
theorem terrierlaw05_MetaReads.mono_l : ∀ k, (∀ y0 y1 y2, LeO (terrierlaw05_MetaReads.j0 k y0 y1 y2) (terrierlaw05_MetaReads.j0 (k + 1) y0 y1 y2)) ∧ (∀ y0, LeO (terrierlaw05_MetaReads.j1 k y0) (terrierlaw05_MetaReads.j1 (k + 1) y0))
 | 0 => ⟨fun _ _ _ r h => by simp [terrierlaw05_MetaReads.j0] at h, fun _ r h => by simp [terrierlaw05_MetaReads.j1] at h⟩
 | k + 1 => by
  obtain ⟨ih0, ih1⟩ := terrierlaw05_MetaReads.mono_l k
  refine ⟨?_, ?_⟩
  ·
   intro y0 y1 y2
   unfold terrierlaw05_MetaReads.j0
   repeat' first
   | (with_reducible exact ih0 _ _ _)
   | (with_reducible exact ih1 _)
   | (with_reducible exact meta_Decode.mono _ _)
   | (with_reducible exact terrierlaw05_lives.mono _)
   | (with_reducible exact terrierref02_Seal.mono _ _)
   | (with_reducible exact terrierref05_Decode.mono _ _)
   | (with_reducible exact LeO.refl _)
   | (with_reducible exact LeO.none _)
   | (with_reducible refine LeO.ite ?_ ?_)
   | (with_reducible refine LeO.bind ?_ (fun _ => ?_))
   | exact ih0 _ _ _
   | exact ih1 _
   | exact meta_Decode.mono _ _
   | exact terrierlaw05_lives.mono _
   | exact terrierref02_Seal.mono _ _
   | exact terrierref05_Decode.mono _ _
   | exact LeO.none _
   | refine LeO.ite ?_ ?_
   | refine LeO.bind ?_ (fun _ => ?_)
  ·
   intro y0
   unfold terrierlaw05_MetaReads.j1
   repeat' first
   | (with_reducible exact ih0 _ _ _)
   | (with_reducible exact ih1 _)
   | (with_reducible exact meta_Decode.mono _ _)
   | (with_reducible exact terrierlaw05_lives.mono _)
   | (with_reducible exact terrierref02_Seal.mono _ _)
   | (with_reducible exact terrierref05_Decode.mono _ _)
   | (with_reducible exact LeO.refl _)
   | (with_reducible exact LeO.none _)
   | (with_reducible refine LeO.ite ?_ ?_)
   | (with_reducible refine LeO.bind ?_ (fun _ => ?_))
   | exact ih0 _ _ _
   | exact ih1 _
   | exact meta_Decode.mono _ _
   | exact terrierlaw05_lives.mono _
   | exact terrierref02_Seal.mono _ _
   | exact terrierref05_Decode.mono _ _
   | exact LeO.none _
   | refine LeO.ite ?_ ?_
   | refine LeO.bind ?_ (fun _ => ?_)
theorem terrierlaw05_MetaReads.mono : ∀ a0 a1 k, LeO (terrierlaw05_MetaReads.f k a0 a1) (terrierlaw05_MetaReads.f (k + 1) a0 a1) := by
 intro a0 a1 k
 obtain ⟨ih0, ih1⟩ := terrierlaw05_MetaReads.mono_l k
 unfold terrierlaw05_MetaReads.f
 repeat' first
   | (with_reducible exact ih0 _ _ _)
   | (with_reducible exact ih1 _)
   | (with_reducible exact meta_Decode.mono _ _)
   | (with_reducible exact terrierlaw05_lives.mono _)
   | (with_reducible exact terrierref02_Seal.mono _ _)
   | (with_reducible exact terrierref05_Decode.mono _ _)
   | (with_reducible exact LeO.refl _)
   | (with_reducible exact LeO.none _)
   | (with_reducible refine LeO.ite ?_ ?_)
   | (with_reducible refine LeO.bind ?_ (fun _ => ?_))
   | exact ih0 _ _ _
   | exact ih1 _
   | exact meta_Decode.mono _ _
   | exact terrierlaw05_lives.mono _
   | exact terrierref02_Seal.mono _ _
   | exact terrierref05_Decode.mono _ _
   | exact LeO.none _
   | refine LeO.ite ?_ ?_
   | refine LeO.bind ?_ (fun _ => ?_)
def terrierlaw05_MetaReads.T8 : Bool × List (List Nat × List Nat) := (true, [([], []), ([0], [0]), ([], []), ([1, 2], [1, 2]), ([3, 1], [3]), ([4], [4]), ([4], [4]), ([5, 6, 4], [4, 5, 6]), ([4, 7], [4, 7]), ([8, 4], [8]), ([9], [9]), ([9], [9]), ([10, 11, 9, 9], [9, 10, 11]), ([9, 12], [9, 12]), ([13, 12, 0, 1, 2, 3, 4, 5, 6, 7, 8, 9, 10, 11, 12, 13], [13])])
def terrierlaw05_MetaReads.B8 : List Nat := [0, 1, 0, 7, 15, 31, 31, 127, 255, 511, 1023, 1023, 4095, 8191, 16383]
theorem terrierlaw05_MetaReads.tab8 : rtab .any (opsOf Try.f4 8) = terrierlaw05_MetaReads.T8 := by kernel_rfl
theorem terrierlaw05_MetaReads.bits8 : waitsOk terrierlaw05_MetaReads.T8.2 terrierlaw05_MetaReads.B8 = true := by kernel_rfl
set_option maxHeartbeats 8000000 in
set_option maxRecDepth 100000 in
theorem terrierlaw05_MetaReads.calls (k : Nat) (P0_ : Nat → Prop) (A0 : Option Addr) (c0 : Nat) (l0 : List Int) (a1 : Bool) (r : Bool) (w : World) (hs0 : Kd.V (Kd.int .u8) 5 w w.heap.size (fun k_ => P0_ k_) (.slice A0 l0.length c0) l0) (h : terrierlaw05_MetaReads.f k l0 a1 = some r) :
  Calls Try.prog 4 #[.slice A0 l0.length c0, .bool a1] w fun e w' => e = .returned (.bool r) ∧ Below w.heap.size w w' := by
 have hu24 := Try.underlying24
 have hu31 := Try.underlying31
 have HO0 := Ext.a (show Kd.V (Kd.int .u8) 5 w w.heap.size (ok4_0 P0_ w) (.slice A0 l0.length c0) l0 from Kd.V_mono hs0 (fun k_ hk => .inl hk))
 have HB := Ext.a (Below.refl w.heap.size w)
 have H : ((terrierlaw05_lives.f k).bind fun t289 => (if t289 = true then (terrierlaw05_MetaReads.j0 k l0 a1 (decide ((l0.length : Int) > 1000))) else (terrierlaw05_MetaReads.j0 k l0 a1 true))) = some r := h
 clear h
 have HC3 := Aside0.mk H
 clear H
 go_enter Try.func4, Try.ntmps4
 go_upto_region 1 with (fail)
 go_cut [16] (fun v16 wc => ∃ (kq : Nat) (x16_2 : Bool), v16 = .bool x16_2 ∧ Aside0 (terrierlaw05_MetaReads.j0 kq l0 a1 x16_2 = some r) ∧ Aside0 (kq ≤ k) ∧ Aside0 (Kd.V (Kd.int .u8) 5 wc w.heap.size (ok4_0 P0_ w) (.slice A0 l0.length c0) l0) ∧ Aside0 (Below w.heap.size w wc))
 case first =>
  have H := HC3.out
  clear HC3
  replace H := Option.bind_eq_some_iff.mp H
  obtain ⟨t289, A40, H⟩ := H
  replace H : (if t289 = true then (terrierlaw05_MetaReads.j0 k l0 a1 (decide ((l0.length : Int) > 1000))) else (terrierlaw05_MetaReads.j0 k l0 a1 true)) = some r := H
  have A4 := Aside0.mk A40
  clear A40
  by_cases c5 : t289 = true
  ·
   subst c5
   have H1 : (terrierlaw05_MetaReads.j0 k l0 a1 (decide ((l0.length : Int) > 1000))) = some r := by rw [if_pos rfl] at H; exact H
   clear H
   have H := H1
   clear H1
   have H' := Aside0.mk H
   clear H
   go_wp2_with (first | ((with_reducible refine gate_callee (f := 9) rfl ?_); refine goesL_ (some 10) rfl rfl Try.func9 (by kernel_rfl) rfl #[] rfl (by (try simp only [List.map_toArray, List.map_cons, List.map_nil]); first | done | rfl | (simp only [List.length_drop, List.length_take]; rfl)) ?_; (with_reducible refine (terrierlaw05_lives.calls k  true _ A4.out).mono ?_); rintro e w6 ⟨rfl, hb⟩; refine ⟨_, rfl, ?_⟩; have n0_ := Ext.a (Kd.V_below (Ext.nV HO0.out) hb); have n1_ := Ext.a (below_step (Ext.nB HB.out) hb); clear HO0 HB; have HO0 := n0_; have HB := n1_; clear n0_ n1_; (try clear hb); (try clear hb2); (try clear hk); (try clear hi)))
   go_meet
   case rel => exact ⟨_, (decide ((l0.length : Int) > 1000)), (by first | rfl | (simp; done) | (simp [*]; done)), H', ⟨by first | omega | exact Nat.le_refl _⟩, ⟨by (with_reducible repeat (first | apply Kd.V_alloc | apply Kd.V_drewN | apply Kd.V_drew)); exact HO0.out⟩, ⟨by repeat (first | (with_reducible first | exact HB.out | apply Ext.ba | apply Ext.bn | apply Ext.bd) | exact HB.out | exact .refl _ _)⟩⟩
  ·
   replace c5 := Bool.eq_false_iff.mpr c5
   subst c5
   have H1 : (terrierlaw05_MetaReads.j0 k l0 a1 true) = some r := by rw [if_neg (show ¬ (false = true) by decide)] at H; exact H
   clear H
   have H := H1
   clear H1
   have H' := Aside0.mk H
   clear H
   go_wp2_with (first | ((with_reducible refine gate_callee (f := 9) rfl ?_); refine goesL_ (some 10) rfl rfl Try.func9 (by kernel_rfl) rfl #[] rfl (by (try simp only [List.map_toArray, List.map_cons, List.map_nil]); first | done | rfl | (simp only [List.length_drop, List.length_take]; rfl)) ?_; (with_reducible refine (terrierlaw05_lives.calls k  false _ A4.out).mono ?_); rintro e w7 ⟨rfl, hb⟩; refine ⟨_, rfl, ?_⟩; have n0_ := Ext.a (Kd.V_below (Ext.nV HO0.out) hb); have n1_ := Ext.a (below_step (Ext.nB HB.out) hb); clear HO0 HB; have HO0 := n0_; have HB := n1_; clear n0_ n1_; (try clear hb); (try clear hb2); (try clear hk); (try clear hi)))
   go_meet
   case rel => exact ⟨_, (true), (by first | rfl | (simp; done) | (simp [*]; done)), H', ⟨by first | omega | exact Nat.le_refl _⟩, ⟨by (with_reducible repeat (first | apply Kd.V_alloc | apply Kd.V_drewN | apply Kd.V_drew)); exact HO0.out⟩, ⟨by repeat (first | (with_reducible first | exact HB.out | apply Ext.ba | apply Ext.bn | apply Ext.bd) | exact HB.out | exact .refl _ _)⟩⟩
 case rest =>
  clear HC3
  try clear p2
  try clear c4
  try clear c5
  obtain ⟨kq, x16_2, rfl, HA, HJ2, HO_0, HB⟩ := hcut
  cases kq with
  | zero => exact absurd HA.out (by simp [terrierlaw05_MetaReads.j0])
  | succ kj2 =>
   have H := HA.out
   clear HA
   simp only [terrierlaw05_MetaReads.j0] at H
   by_cases c8 : x16_2 = true
   ·
    subst c8
    have H1 : ((terrierlaw05_lives.f kj2).bind fun t290 => (some t290)) = some r := by rw [if_pos rfl] at H; exact H
    clear H
    have H := H1
    clear H1
    replace H := Option.bind_eq_some_iff.mp H
    obtain ⟨t290, A90, H⟩ := H
    replace H : (some t290) = some r := H
    have A9 := Aside0.mk A90
    clear A90
    obtain rfl := Option.some.inj H
    go_wp2_with (first | ((with_reducible refine gate_callee (f := 9) rfl ?_); refine goesL_ (some 17) rfl rfl Try.func9 (by kernel_rfl) rfl #[] rfl (by (try simp only [List.map_toArray, List.map_cons, List.map_nil]); first | done | rfl | (simp only [List.length_drop, List.length_take]; rfl)) ?_; (with_reducible refine (terrierlaw05_lives.calls kj2  t290 _ A9.out).mono ?_); rintro e w10 ⟨rfl, hb⟩; refine ⟨_, rfl, ?_⟩; have n0_ := Ext.a (Kd.V_below (Ext.nV HO_0.out) hb); have n1_ := Ext.a (below_step (Ext.nB HB.out) hb); clear HO_0 HB; have HO_0 := n0_; have HB := n1_; clear n0_ n1_; (try clear hb); (try clear hb2); (try clear hk); (try clear hi)))
    go_ret
    exact ⟨by first | rfl | (simp [errW_none, errW_some] <;> rfl) | (simp [*, errW_none, errW_some] <;> rfl), by repeat (first | (with_reducible first | exact HB.out | apply Ext.ba | apply Ext.bn | apply Ext.bd) | exact HB.out | exact .refl _ _)⟩
   ·
    replace c8 := Bool.eq_false_iff.mpr c8
    subst c8
    have H1 : (if a1 = true then ((terrierref02_Seal.f kj2 l0).bind fun t291 => (terrierlaw05_MetaReads.j1 kj2 t291)) else (terrierlaw05_MetaReads.j1 kj2 l0)) = some r := by rw [if_neg (show ¬ (false = true) by decide)] at H; exact H
    clear H
    have H := H1
    clear H1
    have HC11 := Aside0.mk H
    clear H
    go_upto_if 18 with (fail)
    go_cut [0] (fun v0 wc => ∃ (kq : Nat) (x0_10 : List Int), Aside0 (terrierlaw05_MetaReads.j1 kq x0_10 = some r) ∧ Aside0 (kq ≤ kj2) ∧ Aside0 (Kd.V (Kd.int .u8) 5 wc w.heap.size (ok4_0 P0_ w) v0 x0_10) ∧ Aside0 (Below w.heap.size w wc))
    case first =>
     have H := HC11.out
     clear HC11
     by_cases c12 : a1 = true
     ·
      subst c12
      have H1 : ((terrierref02_Seal.f kj2 l0).bind fun t291 => (terrierlaw05_MetaReads.j1 kj2 t291)) = some r := by rw [if_pos rfl] at H; exact H
      clear H
      have H := H1
      clear H1
      replace H := Option.bind_eq_some_iff.mp H
      obtain ⟨t291, A130, H⟩ := H
      replace H : (terrierlaw05_MetaReads.j1 kj2 t291) = some r := H
      have A13 := Aside0.mk A130
      clear A130
      have H' := Aside0.mk H
      clear H
      go_wp2_with (first | ((with_reducible refine gate_callee (f := 16) rfl ?_); refine goesL_ (some 20) rfl rfl Try.func16 (by kernel_rfl) rfl #[.slice A0 l0.length c0] rfl (by (try simp only [List.map_toArray, List.map_cons, List.map_nil]); first | done | rfl | (simp only [List.length_drop, List.length_take]; rfl)) ?_; (with_reducible refine (terrierref02_Seal.calls kj2 _ _ l0 t291 _ ?side1 ?side2 A13.out).mono ?_); (case side1 => exact Ext.nC (Kd.V_reads' HO_0.out).2.2); (case side2 => exact (Kd.V_reads' HO_0.out).2.1); rintro e w14 ⟨v292, rfl, ho0, hb⟩; refine ⟨_, rfl, ?_⟩; have n0_ := Ext.a (Kd.V_elder' (Ext.nV HO_0.out) (Kd.R_base ho0) hb); have n1_ := Ext.a (Kd.R_lower (Kd.R_newM (M := fun k_ => (w.heap.size ≤ k_)) ho0 (below_size (Ext.nB HB.out)) (fun k_ h_ => h_)) (below_size (Ext.nB HB.out))); have n2_ := Ext.a (below_step (Ext.nB HB.out) hb); clear HO_0 HB; have HO_0 := n0_; have HO293 := n1_; have HB := n2_; clear n0_ n1_ n2_; (try clear hb); (try clear hb2); (try clear hk); (try clear hi); (try clear ho0)))
      go_meet
      case rel => exact ⟨_, (t291), H', ⟨by have := HJ2.out; first | omega | exact Nat.le_refl _⟩, ⟨Kd.V_mono (Kd.R_V (Ext.nR (Kd.R_mono HO293.out (fun _ hk => hk.1)))) (fun k_ hk => by first | exact ⟨(.inr (hk.1)), hk.2⟩ | exact (.inr (hk)))⟩, ⟨by repeat (first | (with_reducible first | exact HB.out | apply Ext.ba | apply Ext.bn | apply Ext.bd) | exact HB.out | exact .refl _ _)⟩⟩
     ·
      replace c12 := Bool.eq_false_iff.mpr c12
      subst c12
      have H1 : (terrierlaw05_MetaReads.j1 kj2 l0) = some r := by rw [if_neg (show ¬ (false = true) by decide)] at H; exact H
      clear H
      have H := H1
      clear H1
      have H' := Aside0.mk H
      clear H
      go_wp2
      go_meet
      case rel => exact ⟨_, (l0), H', ⟨by have := HJ2.out; first | omega | exact Nat.le_refl _⟩, ⟨by (with_reducible repeat (first | apply Kd.V_alloc | apply Kd.V_drewN | apply Kd.V_drew)); exact HO_0.out⟩, ⟨by repeat (first | (with_reducible first | exact HB.out | apply Ext.ba | apply Ext.bn | apply Ext.bd) | exact HB.out | exact .refl _ _)⟩⟩
    case rest =>
     clear HC11
     try clear c1
     try clear p2
     try clear c4
     try clear c5
     try clear c8
     try clear c9
     try clear c12
     try clear p2
     obtain ⟨kq, x0_10, HA, HJ10, HO_0, HB⟩ := hcut
     cases kq with
     | zero => exact absurd HA.out (by simp [terrierlaw05_MetaReads.j1])
     | succ kj10 =>
      have H := HA.out
      clear HA
      simp only [terrierlaw05_MetaReads.j1] at H
      replace H := Option.bind_eq_some_iff.mp H
      obtain ⟨t294, A150, H⟩ := H
      replace H : ((meta_Decode.f kj10 t294).bind fun bt297 => ((terrierref05_Decode.f kj10 x0_10).bind fun bt303 => ((terrierlaw05_of.f bt297.1 bt297.2.1 bt297.2.2.1 bt297.2.2.2.1).bind fun bt309 => (if (bt309.1 == bt303.1 && (bt309.2.1 == bt303.2.1 && (bt309.2.2.1 == bt303.2.2.1 && (bt309.2.2.2 == bt303.2.2.2.1)))) = true then (if bt297.2.2.2.2 = bt303.2.2.2.2 then ((terrierref01_Same.f t294 x0_10).bind fun t313 => (some t313)) else (some false)) else (some false))))) = some r := H
      have A15 := Aside0.mk A150
      clear A150
      replace H := Option.bind_eq_some_iff.mp H
      obtain ⟨⟨t297, t298, t299, t300, t301⟩, A160, H⟩ := H
      replace H : ((terrierref05_Decode.f kj10 x0_10).bind fun bt303 => ((terrierlaw05_of.f t297 t298 t299 t300).bind fun bt309 => (if (bt309.1 == bt303.1 && (bt309.2.1 == bt303.2.1 && (bt309.2.2.1 == bt303.2.2.1 && (bt309.2.2.2 == bt303.2.2.2.1)))) = true then (if t301 = bt303.2.2.2.2 then ((terrierref01_Same.f t294 x0_10).bind fun t313 => (some t313)) else (some false)) else (some false)))) = some r := H
      have A16 := Aside0.mk A160
      clear A160
      replace H := Option.bind_eq_some_iff.mp H
      obtain ⟨⟨t303, t304, t305, t306, t307⟩, A170, H⟩ := H
      replace H : ((terrierlaw05_of.f t297 t298 t299 t300).bind fun bt309 => (if (bt309.1 == t303 && (bt309.2.1 == t304 && (bt309.2.2.1 == t305 && (bt309.2.2.2 == t306)))) = true then (if t301 = t307 then ((terrierref01_Same.f t294 x0_10).bind fun t313 => (some t313)) else (some false)) else (some false))) = some r := H
      have A17 := Aside0.mk A170
      clear A170
      replace H := Option.bind_eq_some_iff.mp H
      obtain ⟨⟨t309, t310, t311, t312⟩, A180, H⟩ := H
      replace H : (if (t309 == t303 && (t310 == t304 && (t311 == t305 && (t312 == t306)))) = true then (if t301 = t307 then ((terrierref01_Same.f t294 x0_10).bind fun t313 => (some t313)) else (some false)) else (some false)) = some r := H
      have A18 := Aside0.mk A180
      clear A180
      by_cases c19 : (t309 == t303 && (t310 == t304 && (t311 == t305 && (t312 == t306)))) = true
      ·
       rw [if_pos c19] at H
       have c19b0 : (t309 == t303 && (t310 == t304 && (t311 == t305 && (t312 == t306)))) = true := c19
       (try (have c19b1 : decide (t309 = t303 && (t310 == t304 && (t311 == t305 && (t312 == t306)))) = true := by simpa using c19))
       (try (have c19b2 : (t309 == t303 && (t310 == t304 && (t311 == t305 && (t312 == t306)))) = true := by simpa using c19))
       clear c19
       by_cases c20 : t301 = t307
       ·
        rw [if_pos c20] at H
        have c20b0 : (t301 == t307) = true := beq_iff_eq.mpr c20
        have c20b1 : (t301 != t307) = false := bne_eq_false_iff_eq.mpr c20
        clear c20
        replace H := Option.bind_eq_some_iff.mp H
        obtain ⟨t313, A210, H⟩ := H
        replace H : (some t313) = some r := H
        have A21 := Aside0.mk A210
        clear A210
        obtain rfl := Option.some.inj H
        obtain ⟨Ao22, co22, eo22⟩ := Kd.V_slice HO_0.out
        subst eo22
        try go_wp2_with (first | ((with_reducible refine gate_callee (f := 17) rfl ?_); refine goesL_ (some 22) rfl rfl Try.func17 (by kernel_rfl) rfl #[.slice Ao22 x0_10.length co22] rfl (by (try simp only [List.map_toArray, List.map_cons, List.map_nil]); first | done | rfl | (simp only [List.length_drop, List.length_take]; rfl)) ?_; (with_reducible refine (terrierref01_Twin.calls _ _ x0_10 t294 _ ?side1 ?side2 A15.out).mono ?_); (case side1 => exact Ext.nC (Kd.V_reads' HO_0.out).2.2); (case side2 => exact (Kd.V_reads' HO_0.out).2.1); rintro e w23 ⟨v295, rfl, ho0, hb⟩; refine ⟨_, rfl, ?_⟩; have n0_ := Ext.a (Kd.V_elder' (Ext.nV HO_0.out) (Kd.R_base ho0) hb); have n1_ := Ext.a (Kd.R_lower (Kd.R_newM (M := fun k_ => (w.heap.size ≤ k_)) ho0 (below_size (Ext.nB HB.out)) (fun k_ h_ => h_)) (below_size (Ext.nB HB.out))); have n2_ := Ext.a (below_step (Ext.nB HB.out) hb); clear HO_0 HB; have HO_0 := n0_; have HO296 := n1_; have HB := n2_; clear n0_ n1_ n2_; (try clear hb); (try clear hb2); (try clear hk); (try clear hi); (try clear ho0); obtain ⟨Ao24, co24, eo24⟩ := Kd.R_slice HO296.out; subst eo24) | ((with_reducible refine gate_callee (f := 18) rfl ?_); refine goesL_ (some 25) rfl rfl Try.func18 (by kernel_rfl) rfl #[.slice Ao24 t294.length co24] rfl (by (try simp only [List.map_toArray, List.map_cons, List.map_nil]); first | done | rfl | (simp only [List.length_drop, List.length_take]; rfl)) ?_; (with_reducible refine (meta_Decode.calls kj10 _ _ t294 t297 t298 t299 t300 t301 _ ?side1 ?side2 A16.out).mono ?_); (case side1 => exact Ext.nC (Kd.R_reads' HO296.out).2.2); (case side2 => exact (Kd.R_reads' HO296.out).2.1); rintro e w25 ⟨rfl, hb⟩; refine ⟨_, rfl, ?_⟩; have n0_ := Ext.a (Kd.V_below (Ext.nV HO_0.out) hb); have n1_ := Ext.a (Kd.R_below (Ext.nR HO296.out) hb); have n2_ := Ext.a (below_step (Ext.nB HB.out) hb); clear HO_0 HO296 HB; have HO_0 := n0_; have HO296 := n1_; have HB := n2_; clear n0_ n1_ n2_; (try clear hb); (try clear hb2); (try clear hk); (try clear hi)) | ((with_reducible refine gate_dst (N := 6) rfl ?_); (try (refine gate_guard (by rfl) ?_; dsimp only)); refine box_event ?hg (N := 6) ?hd (cs := #[.int .u64 0, .int .i64 0, .int .i64 0, .int .i64 0]) (t := 24) ?hr ?_; (case hd => rfl); (case hg => rfl); (case hr => first | (go_simp; done) | (go_simp; rfl)); intro gb302 hg w26 hbox hb; have n0_ := Ext.a (Kd.V_below (Kd.V_elderB (Ext.nV HO_0.out) gb302 (Nat.le_of_eq hg.symm)) hb); have n1_ := Ext.a (Kd.R_below (Ext.nR HO296.out) hb); have n2_ := Ext.a (below_step (Ext.nB HB.out) hb); have n3_ := Ext.a (hbox); have n4_ := Ext.a ((by rw [hg]; exact (below_size (Ext.nB HB.out)) : w.heap.size ≤ gb302)); have n5_ := Ext.a ((by rw [hg]; exact (below_size (Ext.nB HB.out)) : w.heap.size ≤ gb302)); clear HO_0 HO296 HB; have HO_0 := n0_; have HO296 := n1_; have HB := n2_; have BK302 := n3_; have GW302 := n4_; have GE302 := n5_; clear n0_ n1_ n2_ n3_ n4_ n5_; clear hb hbox hg; obtain ⟨hcz27_0, hcz27_1, hcz27_2, hcz27_3⟩ := Ext.cells4 BK302.out; obtain ⟨hfz27_0, hfz27_1, hfz27_2, hfz27_3⟩ := Ext.froz4 BK302.out) | ((with_reducible refine gate_callee (f := 19) rfl ?_); refine goesL_ (some 30) rfl rfl Try.func19 (by kernel_rfl) rfl #[.slice Ao22 x0_10.length co22] rfl (by (try simp only [List.map_toArray, List.map_cons, List.map_nil]); first | done | rfl | (simp only [List.length_drop, List.length_take]; rfl)) ?_; (with_reducible refine (terrierref05_Decode.calls kj10 _ _ x0_10 t303 t304 t305 t306 t307 _ ?side1 ?side2 A17.out).mono ?_); (case side1 => refine (Kd.V_reads' (e := 5) (base := w.heap.size) (ok := fun k_ => (((P0_ k_ ∨ w.heap.size ≤ k_) ∧ some k_ ≠ (.slice Ao24 t294.length co24 : Value).ownBlock) ∧ k_ ≠ gb302)) (n := x0_10.length) (c := co22) ?_).2.2; exact (Ext.nV ((Kd.V_mono (Kd.V_far (p := ⟨gb302, 3, none⟩) (Kd.V_far (p := ⟨gb302, 2, none⟩) (Kd.V_far (p := ⟨gb302, 1, none⟩) (Kd.V_far (p := ⟨gb302, 0, none⟩) (Kd.V_mono HO_0.out (fun k_ hk => (⟨hk, hk.2⟩ : _ ∧ k_ ≠ gb302))) (fun _ hk => hk.2) (.int .u64 t297)) (fun _ hk => hk.2) (.int .i64 t298)) (fun _ hk => hk.2) (.int .i64 t299)) (fun _ hk => hk.2) (.int .i64 t300)) (fun _ h_ => h_.1))))); (case side2 => exact (Kd.V_reads' HO_0.out).2.1); rintro e w28 ⟨rfl, hb⟩; refine ⟨_, rfl, ?_⟩; have n0_ := Ext.a (Kd.V_below (Ext.nV ((Kd.V_mono (Kd.V_far (p := ⟨gb302, 3, none⟩) (Kd.V_far (p := ⟨gb302, 2, none⟩) (Kd.V_far (p := ⟨gb302, 1, none⟩) (Kd.V_far (p := ⟨gb302, 0, none⟩) (Kd.V_mono HO_0.out (fun k_ hk => (⟨hk, hk.2⟩ : _ ∧ k_ ≠ gb302))) (fun _ hk => hk.2) (.int .u64 t297)) (fun _ hk => hk.2) (.int .i64 t298)) (fun _ hk => hk.2) (.int .i64 t299)) (fun _ hk => hk.2) (.int .i64 t300)) (fun _ h_ => h_.1)))) hb); have n1_ := Ext.a (Kd.R_below (Ext.nR ((Ext.far4 HO296.out BK302.out (by decide) (.int .u64 t297) (.int .i64 t298) (.int .i64 t299) (.int .i64 t300)))) hb); have n2_ := Ext.a (blk_below (g := gb302) (o := .cells #[.int .u64 t297, .int .i64 t298, .int .i64 t299, .int .i64 t300] 24 (0, 0)) (by exact Ext.puts4 BK302.out) hb); have n3_ := Ext.a (below_step (by repeat (first | (with_reducible first | exact HB.out | apply Ext.ba | apply Ext.bn | apply Ext.bd | refine Ext.bs ?_ GE302.out) | exact HB.out | exact .refl _ _)) hb); clear HO_0 HO296 BK302 HB; have HO_0 := n0_; have HO296 := n1_; have BK302 := n2_; have HB := n3_; clear n0_ n1_ n2_ n3_; (try clear hb); (try clear hb2); (try clear hk); (try clear hi)) | ((with_reducible refine gate_dst (N := 8) rfl ?_); (try (refine gate_guard (by rfl) ?_; dsimp only)); refine box_event ?hg (N := 8) ?hd (cs := #[.int .u64 0, .int .i64 0, .int .i64 0, .int .i64 0]) (t := 31) ?hr ?_; (case hd => rfl); (case hg => rfl); (case hr => first | (go_simp; done) | (go_simp; rfl)); intro gb308 hg w29 hbox hb; have n0_ := Ext.a (Kd.V_below (Kd.V_elderB (Ext.nV HO_0.out) gb308 (Nat.le_of_eq hg.symm)) hb); have n1_ := Ext.a (Kd.R_below (Ext.nR HO296.out) hb); have n2_ := Ext.a (blk_below BK302.out hb); have n3_ := Ext.a (below_step (by repeat (first | (with_reducible first | exact HB.out | apply Ext.ba | apply Ext.bn | apply Ext.bd | refine Ext.bs ?_ GE302.out) | exact HB.out | exact .refl _ _)) hb); have n4_ := Ext.a (hbox); have n5_ := Ext.a ((by rw [hg]; exact (below_size (by repeat (first | (with_reducible first | exact HB.out | apply Ext.ba | apply Ext.bn | apply Ext.bd | refine Ext.bs ?_ GE302.out) | exact HB.out | exact .refl _ _))) : w.heap.size ≤ gb308)); have n6_ := Ext.a ((by rw [hg]; exact (below_size (by repeat (first | (with_reducible first | exact HB.out | apply Ext.ba | apply Ext.bn | apply Ext.bd | refine Ext.bs ?_ GE302.out) | exact HB.out | exact .refl _ _))) : w.heap.size ≤ gb308)); have n7_ := Ext.a ((by rw [hg]; exact Nat.ne_of_lt (blk_lt BK302.out) : gb302 ≠ gb308)); have n8_ := Ext.a ((by rw [hg]; exact Nat.ne_of_gt (blk_lt BK302.out) : gb308 ≠ gb302)); clear HO_0 HO296 BK302 HB; have HO_0 := n0_; have HO296 := n1_; have BK302 := n2_; have HB := n3_; have BK308 := n4_; have GW308 := n5_; have GE308 := n6_; have NB302_308 := n7_; have NB308_302 := n8_; clear n0_ n1_ n2_ n3_ n4_ n5_ n6_ n7_ n8_; clear hb hbox hg; have hnb30 := NB308_302.out; have hnc30 := NB302_308.out; obtain ⟨hcz31_0, hcz31_1, hcz31_2, hcz31_3⟩ := Ext.cells4 BK308.out; obtain ⟨hfz31_0, hfz31_1, hfz31_2, hfz31_3⟩ := Ext.froz4 BK308.out))
        have n0_ : Aside0 (Kd.V (Kd.int .u8) 5 ((((w29.setCell ⟨gb308, 0, none⟩ (.int .u64 t303)).setCell ⟨gb308, 1, none⟩ (.int .i64 t304)).setCell ⟨gb308, 2, none⟩ (.int .i64 t305)).setCell ⟨gb308, 3, none⟩ (.int .i64 t306)) w.heap.size (ok4_1 P0_ w (.slice Ao24 t294.length co24) gb302 gb308) (.slice Ao22 x0_10.length co22) x0_10) := ⟨by (with_reducible repeat (first | apply Kd.V_alloc | apply Kd.V_drewN | apply Kd.V_drew)); exact Kd.V_mono (Kd.V_far (p := ⟨gb308, 3, none⟩) (Kd.V_far (p := ⟨gb308, 2, none⟩) (Kd.V_far (p := ⟨gb308, 1, none⟩) (Kd.V_far (p := ⟨gb308, 0, none⟩) (Kd.V_mono HO_0.out (fun k_ hk => (⟨hk, hk.2⟩ : _ ∧ k_ ≠ gb308))) (fun _ hk => hk.2) (.int .u64 t303)) (fun _ hk => hk.2) (.int .i64 t304)) (fun _ hk => hk.2) (.int .i64 t305)) (fun _ hk => hk.2) (.int .i64 t306)) (fun _ hk => ⟨hk.1.1.1.1, ⟨hk.1.1.1.2, ⟨hk.1.1.2, hk.1.2⟩⟩⟩)⟩
        have n1_ : Aside0 (Kd.R (Kd.int .u8) 5 ((((w29.setCell ⟨gb308, 0, none⟩ (.int .u64 t303)).setCell ⟨gb308, 1, none⟩ (.int .i64 t304)).setCell ⟨gb308, 2, none⟩ (.int .i64 t305)).setCell ⟨gb308, 3, none⟩ (.int .i64 t306)) w.heap.size (ok4_2 w) (.slice Ao24 t294.length co24) t294) := ⟨by (with_reducible repeat (first | apply Kd.R_alloc | apply Kd.R_drewN | apply Kd.R_drew)); exact Kd.R_mono (Kd.R_far (p := ⟨gb308, 3, none⟩) (Kd.R_far (p := ⟨gb308, 2, none⟩) (Kd.R_far (p := ⟨gb308, 1, none⟩) (Kd.R_far (p := ⟨gb308, 0, none⟩) (Kd.R_types HO296.out BK308.out (by decide)) (fun _ hk => hk.2) (.int .u64 t303)) (fun _ hk => hk.2) (.int .i64 t304)) (fun _ hk => hk.2) (.int .i64 t305)) (fun _ hk => hk.2) (.int .i64 t306)) (fun _ hk => hk.1.1)⟩
        have n2_ : Aside0 (((((w29.setCell ⟨gb308, 0, none⟩ (.int .u64 t303)).setCell ⟨gb308, 1, none⟩ (.int .i64 t304)).setCell ⟨gb308, 2, none⟩ (.int .i64 t305)).setCell ⟨gb308, 3, none⟩ (.int .i64 t306)).heap[gb302]? = some (.cells #[.int .u64 t297, .int .i64 t298, .int .i64 t299, .int .i64 t300] 24 (0, 0))) := ⟨by refine blk_far ?_ NB302_308.out _; refine blk_far ?_ NB302_308.out _; refine blk_far ?_ NB302_308.out _; refine blk_far ?_ NB302_308.out _; exact BK302.out⟩
        have n3_ : Aside0 (((((w29.setCell ⟨gb308, 0, none⟩ (.int .u64 t303)).setCell ⟨gb308, 1, none⟩ (.int .i64 t304)).setCell ⟨gb308, 2, none⟩ (.int .i64 t305)).setCell ⟨gb308, 3, none⟩ (.int .i64 t306)).heap[gb308]? = some (.cells #[.int .u64 t303, .int .i64 t304, .int .i64 t305, .int .i64 t306] 31 (0, 0))) := ⟨by refine blk_put (cs := #[.int .u64 t303, .int .i64 t304, .int .i64 t305, .int .i64 0]) ?_ 3 _ rfl; refine blk_put (cs := #[.int .u64 t303, .int .i64 t304, .int .i64 0, .int .i64 0]) ?_ 2 _ rfl; refine blk_put (cs := #[.int .u64 t303, .int .i64 0, .int .i64 0, .int .i64 0]) ?_ 1 _ rfl; refine blk_put (cs := #[.int .u64 0, .int .i64 0, .int .i64 0, .int .i64 0]) ?_ 0 _ rfl; exact BK308.out⟩
        have n4_ : Aside0 (Below w.heap.size w ((((w29.setCell ⟨gb308, 0, none⟩ (.int .u64 t303)).setCell ⟨gb308, 1, none⟩ (.int .i64 t304)).setCell ⟨gb308, 2, none⟩ (.int .i64 t305)).setCell ⟨gb308, 3, none⟩ (.int .i64 t306))) := ⟨by repeat (first | (with_reducible first | exact HB.out | apply Ext.ba | apply Ext.bn | apply Ext.bd | refine Ext.bs ?_ GE302.out | refine Ext.bs ?_ GE308.out) | exact HB.out | exact .refl _ _)⟩
        (try clear HO_0)
        (try clear HO296)
        (try clear BK302)
        (try clear BK308)
        (try clear HB)
        generalize ((((w29.setCell ⟨gb308, 0, none⟩ (.int .u64 t303)).setCell ⟨gb308, 1, none⟩ (.int .i64 t304)).setCell ⟨gb308, 2, none⟩ (.int .i64 t305)).setCell ⟨gb308, 3, none⟩ (.int .i64 t306)) = w32 at n0_ n1_ n2_ n3_ n4_ ⊢
        have HO_0 := n0_
        have HO296 := n1_
        have BK302 := n2_
        have BK308 := n3_
        have HB := n4_
        clear n0_ n1_ n2_ n3_ n4_
        have n0_ := Ext.a (Kd.V_drew HO_0.out)
        have n1_ := Ext.a (Kd.R_drew HO296.out)
        have n2_ := Ext.a (blk_drew BK302.out)
        have n3_ := Ext.a (blk_drew BK308.out)
        have n4_ := Ext.a (below_drew1 HB.out)
        clear HO_0
        clear HO296
        clear BK302
        clear BK308
        clear HB
        have HO_0 := n0_
        have HO296 := n1_
        have BK302 := n2_
        have BK308 := n3_
        have HB := n4_
        clear n0_ n1_ n2_ n3_ n4_
        refine start_ (n := 15) (S := fun w' => w'.cell? ⟨gb302, 0, none⟩ = some (.int .u64 t297) ∧ w'.cell? ⟨gb302, 1, none⟩ = some (.int .i64 t298) ∧ w'.cell? ⟨gb302, 2, none⟩ = some (.int .i64 t299) ∧ w'.cell? ⟨gb302, 3, none⟩ = some (.int .i64 t300) ∧ w'.cell? ⟨gb308, 0, none⟩ = some (.int .u64 t303) ∧ w'.cell? ⟨gb308, 1, none⟩ = some (.int .i64 t304) ∧ w'.cell? ⟨gb308, 2, none⟩ = some (.int .i64 t305) ∧ w'.cell? ⟨gb308, 3, none⟩ = some (.int .i64 t306)) (ds := []) zb4_0 (by kernel_rfl) rfl rfl ⟨(blk_cell BK302.out 0).trans rfl, (blk_cell BK302.out 1).trans rfl, (blk_cell BK302.out 2).trans rfl, (blk_cell BK302.out 3).trans rfl, (blk_cell BK308.out 0).trans rfl, (blk_cell BK308.out 1).trans rfl, (blk_cell BK308.out 2).trans rfl, (blk_cell BK308.out 3).trans rfl⟩ (fun hHeld => ?_); refine with_tabW terrierlaw05_MetaReads.tab8 terrierlaw05_MetaReads.bits8 (fun HT_ HW_ => ?_)
        generalize w32.drew = w33 at HO_0 HO296 BK302 BK308 HB hHeld ⊢
        refine take_ (i := 0) (N := some 33) (v := ?_) (a' := ?_) zb4_1 rfl rfl (take_ofW HT_.out HW_.out (by kernel_rfl)) (fun _ _ _ h => h) (Or.inl ⟨by rfl, ?_⟩) hHeld ?_ ?_
        rotate_left
        · rintro w' ⟨s0, s1, s2, s3, s4, s5, s6, s7⟩; go_simp; with_reducible rfl
        rotate_left
        · simp only [Act.put, Ext.sb, Ext.sz, Ext.ss, i64_w, i32_w]; rfl
        refine take_ (i := 2) (N := some 35) (v := ?_) (a' := ?_) zb4_2 rfl rfl (take_ofW HT_.out HW_.out (by kernel_rfl)) (fun _ _ _ h => h) (Or.inl ⟨by rfl, ?_⟩) hHeld ?_ ?_
        rotate_left
        · rintro w' ⟨s0, s1, s2, s3, s4, s5, s6, s7⟩; go_simp; with_reducible rfl
        rotate_left
        · simp only [Act.put, Ext.sb, Ext.sz, Ext.ss, i64_w, i32_w]; rfl
        refine one_ (i := 1) (N := some 34) zb4_3 rfl rfl (one_of HT_.out (by kernel_rfl)) (by decide) (fun K hK => ?_)
        refine goes_ Try.func12 (by kernel_rfl) rfl #[.agg #[.int .u64 t297, .int .i64 t298, .int .i64 t299, .int .i64 t300]] (by rfl) rfl rfl (by (try simp only [List.map_toArray, List.map_cons, List.map_nil]); first | done | rfl | (simp only [List.length_drop, List.length_take]; rfl)) ?_
        with_reducible refine (terrierlaw05_of.calls t297 t298 t299 t300 t309 t310 t311 t312 _ A18.out).mono ?_
        rintro e w34 ⟨rfl, hb⟩
        refine ⟨_, rfl, ?_⟩
        have n0_ := Ext.a (Kd.V_below (Ext.nV HO_0.out) hb)
        have n1_ := Ext.a (Kd.R_below (Ext.nR HO296.out) hb)
        have n2_ := Ext.a (blk_below BK302.out hb)
        have n3_ := Ext.a (blk_below BK308.out hb)
        have n4_ := Ext.a (below_step (by repeat (first | (with_reducible first | exact HB.out | apply Ext.ba | apply Ext.bn | apply Ext.bd | refine Ext.bs ?_ GE302.out | refine Ext.bs ?_ GE308.out) | exact HB.out | exact .refl _ _)) hb)
        clear HO_0
        clear HO296
        clear BK302
        clear BK308
        clear HB
        have HO_0 := n0_
        have HO296 := n1_
        have BK302 := n2_
        have BK308 := n3_
        have HB := n4_
        clear n0_ n1_ n2_ n3_ n4_
        (try clear hb)
        (try clear hb2)
        (try clear hk)
        (try clear hi)
        refine hK.out _ _ ⟨(blk_cell BK302.out 0).trans rfl, (blk_cell BK302.out 1).trans rfl, (blk_cell BK302.out 2).trans rfl, (blk_cell BK302.out 3).trans rfl, (blk_cell BK308.out 0).trans rfl, (blk_cell BK308.out 1).trans rfl, (blk_cell BK308.out 2).trans rfl, (blk_cell BK308.out 3).trans rfl⟩ (fun hHeld => ?_)
        clear hK K
        refine norm_ (a' := ?_) ?_ ?_
        rotate_left
        · show Act.put _ (some 34) _ = _; simp only [Act.put, Ext.sb, Ext.sz, Ext.ss, i64_w, i32_w]; rfl
        refine pure_ (i := 3) (N := some 36) (v := ?_) (a' := ?_) zb4_4 rfl rfl (any_of HT_.out (by kernel_rfl)) (fun _ _ _ h => h) (Or.inl ⟨by rfl, ?_⟩) ?_ ?_
        rotate_left
        · intro w'; go_simp; with_reducible rfl
        rotate_left
        · simp only [Act.put, Ext.sb, Ext.sz, Ext.ss, i64_w, i32_w]; rfl
        refine pure_ (i := 4) (N := some 37) (v := ?_) (a' := ?_) zb4_5 rfl rfl (any_of HT_.out (by kernel_rfl)) (fun _ _ _ h => h) (Or.inl ⟨by rfl, ?_⟩) ?_ ?_
        rotate_left
        · intro w'; go_simp; with_reducible rfl
        rotate_left
        · simp only [Act.put, Ext.sb, Ext.sz, Ext.ss, i64_w, i32_w]; rfl
        refine pure_ (i := 5) (N := some 38) (v := ?_) (a' := ?_) zb4_6 rfl rfl (any_of HT_.out (by kernel_rfl)) (fun _ _ _ h => h) (Or.inl ⟨by rfl, ?_⟩) ?_ ?_
        rotate_left
        · intro w'; go_simp; with_reducible rfl
        rotate_left
        · simp only [Act.put, Ext.sb, Ext.sz, Ext.ss, i64_w, i32_w]; rfl
        refine pure_ (i := 6) (N := some 39) (v := ?_) (a' := ?_) zb4_7 rfl rfl (any_of HT_.out (by kernel_rfl)) (fun _ _ _ h => h) (Or.inl ⟨by rfl, ?_⟩) ?_ ?_
        rotate_left
        · intro w'; go_simp; with_reducible rfl
        rotate_left
        · simp only [Act.put, Ext.sb, Ext.sz, Ext.ss, i64_w, i32_w]; rfl
        refine pure_ (i := 7) (N := some 40) (v := ?_) (a' := ?_) zb4_8 rfl rfl (any_of HT_.out (by kernel_rfl)) (fun _ _ _ h => h) (Or.inl ⟨by rfl, ?_⟩) ?_ ?_
        rotate_left
        · intro w'; go_simp; with_reducible rfl
        rotate_left
        · simp only [Act.put, Ext.sb, Ext.sz, Ext.ss, i64_w, i32_w]; rfl
        refine pure_ (i := 8) (N := some 41) (v := ?_) (a' := ?_) zb4_9 rfl rfl (any_of HT_.out (by kernel_rfl)) (fun _ _ _ h => h) (Or.inl ⟨by rfl, ?_⟩) ?_ ?_
        rotate_left
        · intro w'; go_simp; with_reducible rfl
        rotate_left
        · simp only [Act.put, Ext.sb, Ext.sz, Ext.ss, i64_w, i32_w]; rfl
        refine pure_ (i := 9) (N := some 42) (v := ?_) (a' := ?_) zb4_10 rfl rfl (any_of HT_.out (by kernel_rfl)) (fun _ _ _ h => h) (Or.inl ⟨by rfl, ?_⟩) ?_ ?_
        rotate_left
        · intro w'; go_simp; with_reducible rfl
        rotate_left
        · simp only [Act.put, Ext.sb, Ext.sz, Ext.ss, i64_w, i32_w]; rfl
        refine pure_ (i := 10) (N := some 43) (v := ?_) (a' := ?_) zb4_11 rfl rfl (any_of HT_.out (by kernel_rfl)) (fun _ _ _ h => h) (Or.inl ⟨by rfl, ?_⟩) ?_ ?_
        rotate_left
        · intro w'; go_simp; with_reducible rfl
        rotate_left
        · simp only [Act.put, Ext.sb, Ext.sz, Ext.ss, i64_w, i32_w]; rfl
        refine pure_ (i := 11) (N := some 44) (v := ?_) (a' := ?_) zb4_12 rfl rfl (any_of HT_.out (by kernel_rfl)) (fun _ _ _ h => h) (Or.inl ⟨by rfl, ?_⟩) ?_ ?_
        rotate_left
        · intro w'; go_simp; with_reducible rfl
        rotate_left
        · simp only [Act.put, Ext.sb, Ext.sz, Ext.ss, i64_w, i32_w]; rfl
        refine one_ (i := 12) (N := some 45) zb4_13 rfl rfl (one_of HT_.out (by kernel_rfl)) (by decide) (fun K hK => ?_)
        refine goes_ Try.func14 (by kernel_rfl) rfl #[.slice Ao24 t294.length co24, .slice Ao22 x0_10.length co22] (by rfl) rfl rfl (by (try simp only [List.map_toArray, List.map_cons, List.map_nil]); first | done | rfl | (simp only [List.length_drop, List.length_take]; rfl)) ?_
        with_reducible refine (terrierref01_Same.calls _ _ t294 _ _ x0_10 t313 _ ?side1 ?side2 ?side3 ?side4 A21.out).mono ?_
        (case side1 => exact Ext.nC (Kd.R_reads' HO296.out).2.2)
        (case side2 => exact (Kd.R_reads' HO296.out).2.1)
        (case side3 => exact Ext.nC (Kd.V_reads' HO_0.out).2.2)
        (case side4 => exact (Kd.V_reads' HO_0.out).2.1)
        rintro e w' ⟨rfl, ⟨nd, rfl⟩⟩
        refine ⟨_, rfl, ?_⟩
        refine hK.out _ _ ⟨(blk_cell BK302.out 0).trans rfl, (blk_cell BK302.out 1).trans rfl, (blk_cell BK302.out 2).trans rfl, (blk_cell BK302.out 3).trans rfl, (blk_cell BK308.out 0).trans rfl, (blk_cell BK308.out 1).trans rfl, (blk_cell BK308.out 2).trans rfl, (blk_cell BK308.out 3).trans rfl⟩ (fun hHeld => ?_)
        clear hK K
        refine norm_ (a' := ?_) ?_ ?_
        rotate_left
        · show Act.put _ (some 45) _ = _; simp only [Act.put, Ext.sb, Ext.sz, Ext.ss, i64_w, i32_w]; rfl
        refine pure_ (i := 13) (N := some 46) (v := ?_) (a' := ?_) zb4_14 rfl rfl (any_of HT_.out (by kernel_rfl)) (fun _ _ _ h => h) (Or.inl ⟨by rfl, ?_⟩) ?_ ?_
        rotate_left
        · intro w'; go_simp; with_reducible rfl
        rotate_left
        · simp only [Act.put, Ext.sb, Ext.sz, Ext.ss, i64_w, i32_w]; rfl
        refine pure_ (i := 14) (N := some 4) (v := ?_) (a' := ?_) zb4_15 rfl rfl (any_of HT_.out (by kernel_rfl)) (fun _ _ _ h => h) (Or.inl ⟨by rfl, ?_⟩) ?_ ?_
        rotate_left
        · intro w'; go_simp; with_reducible rfl
        rotate_left
        · simp only [Act.put, Ext.sb, Ext.sz, Ext.ss, i64_w, i32_w]; rfl
        refine done_ (done_of HT_.out (by kernel_rfl)) ?_
        try go_wp2
        go_ret
        exact ⟨by first | rfl | (simp [errW_none, errW_some] <;> rfl) | (simp [*, errW_none, errW_some] <;> rfl), by repeat (first | (with_reducible first | exact HB.out | apply Ext.ba | apply Ext.bn | apply Ext.bd | refine Ext.bs ?_ GE302.out | refine Ext.bs ?_ GE308.out) | exact HB.out | exact .refl _ _)⟩
       ·
        rw [if_neg c20] at H
        have c20b0 : (t301 == t307) = false := beq_eq_false_iff_ne.mpr c20
        have c20b1 : (t301 != t307) = true := bne_iff_ne.mpr c20
        obtain rfl := Option.some.inj H
        obtain ⟨Ao35, co35, eo35⟩ := Kd.V_slice HO_0.out
        subst eo35
        try go_wp2_with (first | ((with_reducible refine gate_callee (f := 17) rfl ?_); refine goesL_ (some 22) rfl rfl Try.func17 (by kernel_rfl) rfl #[.slice Ao35 x0_10.length co35] rfl (by (try simp only [List.map_toArray, List.map_cons, List.map_nil]); first | done | rfl | (simp only [List.length_drop, List.length_take]; rfl)) ?_; (with_reducible refine (terrierref01_Twin.calls _ _ x0_10 t294 _ ?side1 ?side2 A15.out).mono ?_); (case side1 => exact Ext.nC (Kd.V_reads' HO_0.out).2.2); (case side2 => exact (Kd.V_reads' HO_0.out).2.1); rintro e w36 ⟨v295, rfl, ho0, hb⟩; refine ⟨_, rfl, ?_⟩; have n0_ := Ext.a (Kd.V_elder' (Ext.nV HO_0.out) (Kd.R_base ho0) hb); have n1_ := Ext.a (Kd.R_lower (Kd.R_newM (M := fun k_ => (w.heap.size ≤ k_)) ho0 (below_size (Ext.nB HB.out)) (fun k_ h_ => h_)) (below_size (Ext.nB HB.out))); have n2_ := Ext.a (below_step (Ext.nB HB.out) hb); clear HO_0 HB; have HO_0 := n0_; have HO296 := n1_; have HB := n2_; clear n0_ n1_ n2_; (try clear hb); (try clear hb2); (try clear hk); (try clear hi); (try clear ho0); obtain ⟨Ao37, co37, eo37⟩ := Kd.R_slice HO296.out; subst eo37) | ((with_reducible refine gate_callee (f := 18) rfl ?_); refine goesL_ (some 25) rfl rfl Try.func18 (by kernel_rfl) rfl #[.slice Ao37 t294.length co37] rfl (by (try simp only [List.map_toArray, List.map_cons, List.map_nil]); first | done | rfl | (simp only [List.length_drop, List.length_take]; rfl)) ?_; (with_reducible refine (meta_Decode.calls kj10 _ _ t294 t297 t298 t299 t300 t301 _ ?side1 ?side2 A16.out).mono ?_); (case side1 => exact Ext.nC (Kd.R_reads' HO296.out).2.2); (case side2 => exact (Kd.R_reads' HO296.out).2.1); rintro e w38 ⟨rfl, hb⟩; refine ⟨_, rfl, ?_⟩; have n0_ := Ext.a (Kd.V_below (Ext.nV HO_0.out) hb); have n1_ := Ext.a (Kd.R_below (Ext.nR HO296.out) hb); have n2_ := Ext.a (below_step (Ext.nB HB.out) hb); clear HO_0 HO296 HB; have HO_0 := n0_; have HO296 := n1_; have HB := n2_; clear n0_ n1_ n2_; (try clear hb); (try clear hb2); (try clear hk); (try clear hi)) | ((with_reducible refine gate_dst (N := 6) rfl ?_); (try (refine gate_guard (by rfl) ?_; dsimp only)); refine box_event ?hg (N := 6) ?hd (cs := #[.int .u64 0, .int .i64 0, .int .i64 0, .int .i64 0]) (t := 24) ?hr ?_; (case hd => rfl); (case hg => rfl); (case hr => first | (go_simp; done) | (go_simp; rfl)); intro gb302 hg w39 hbox hb; have n0_ := Ext.a (Kd.V_below (Kd.V_elderB (Ext.nV HO_0.out) gb302 (Nat.le_of_eq hg.symm)) hb); have n1_ := Ext.a (Kd.R_below (Ext.nR HO296.out) hb); have n2_ := Ext.a (below_step (Ext.nB HB.out) hb); have n3_ := Ext.a (hbox); have n4_ := Ext.a ((by rw [hg]; exact (below_size (Ext.nB HB.out)) : w.heap.size ≤ gb302)); have n5_ := Ext.a ((by rw [hg]; exact (below_size (Ext.nB HB.out)) : w.heap.size ≤ gb302)); clear HO_0 HO296 HB; have HO_0 := n0_; have HO296 := n1_; have HB := n2_; have BK302 := n3_; have GW302 := n4_; have GE302 := n5_; clear n0_ n1_ n2_ n3_ n4_ n5_; clear hb hbox hg; obtain ⟨hcz40_0, hcz40_1, hcz40_2, hcz40_3⟩ := Ext.cells4 BK302.out; obtain ⟨hfz40_0, hfz40_1, hfz40_2, hfz40_3⟩ := Ext.froz4 BK302.out) | ((with_reducible refine gate_callee (f := 19) rfl ?_); refine goesL_ (some 30) rfl rfl Try.func19 (by kernel_rfl) rfl #[.slice Ao35 x0_10.length co35] rfl (by (try simp only [List.map_toArray, List.map_cons, List.map_nil]); first | done | rfl | (simp only [List.length_drop, List.length_take]; rfl)) ?_; (with_reducible refine (terrierref05_Decode.calls kj10 _ _ x0_10 t303 t304 t305 t306 t307 _ ?side1 ?side2 A17.out).mono ?_); (case side1 => refine (Kd.V_reads' (e := 5) (base := w.heap.size) (ok := fun k_ => (((P0_ k_ ∨ w.heap.size ≤ k_) ∧ some k_ ≠ (.slice Ao37 t294.length co37 : Value).ownBlock) ∧ k_ ≠ gb302)) (n := x0_10.length) (c := co35) ?_).2.2; exact (Ext.nV ((Kd.V_mono (Kd.V_far (p := ⟨gb302, 3, none⟩) (Kd.V_far (p := ⟨gb302, 2, none⟩) (Kd.V_far (p := ⟨gb302, 1, none⟩) (Kd.V_far (p := ⟨gb302, 0, none⟩) (Kd.V_mono HO_0.out (fun k_ hk => (⟨hk, hk.2⟩ : _ ∧ k_ ≠ gb302))) (fun _ hk => hk.2) (.int .u64 t297)) (fun _ hk => hk.2) (.int .i64 t298)) (fun _ hk => hk.2) (.int .i64 t299)) (fun _ hk => hk.2) (.int .i64 t300)) (fun _ h_ => h_.1))))); (case side2 => exact (Kd.V_reads' HO_0.out).2.1); rintro e w41 ⟨rfl, hb⟩; refine ⟨_, rfl, ?_⟩; have n0_ := Ext.a (Kd.V_below (Ext.nV ((Kd.V_mono (Kd.V_far (p := ⟨gb302, 3, none⟩) (Kd.V_far (p := ⟨gb302, 2, none⟩) (Kd.V_far (p := ⟨gb302, 1, none⟩) (Kd.V_far (p := ⟨gb302, 0, none⟩) (Kd.V_mono HO_0.out (fun k_ hk => (⟨hk, hk.2⟩ : _ ∧ k_ ≠ gb302))) (fun _ hk => hk.2) (.int .u64 t297)) (fun _ hk => hk.2) (.int .i64 t298)) (fun _ hk => hk.2) (.int .i64 t299)) (fun _ hk => hk.2) (.int .i64 t300)) (fun _ h_ => h_.1)))) hb); have n1_ := Ext.a (Kd.R_below (Ext.nR ((Ext.far4 HO296.out BK302.out (by decide) (.int .u64 t297) (.int .i64 t298) (.int .i64 t299) (.int .i64 t300)))) hb); have n2_ := Ext.a (blk_below (g := gb302) (o := .cells #[.int .u64 t297, .int .i64 t298, .int .i64 t299, .int .i64 t300] 24 (0, 0)) (by exact Ext.puts4 BK302.out) hb); have n3_ := Ext.a (below_step (by repeat (first | (with_reducible first | exact HB.out | apply Ext.ba | apply Ext.bn | apply Ext.bd | refine Ext.bs ?_ GE302.out) | exact HB.out | exact .refl _ _)) hb); clear HO_0 HO296 BK302 HB; have HO_0 := n0_; have HO296 := n1_; have BK302 := n2_; have HB := n3_; clear n0_ n1_ n2_ n3_; (try clear hb); (try clear hb2); (try clear hk); (try clear hi)) | ((with_reducible refine gate_dst (N := 8) rfl ?_); (try (refine gate_guard (by rfl) ?_; dsimp only)); refine box_event ?hg (N := 8) ?hd (cs := #[.int .u64 0, .int .i64 0, .int .i64 0, .int .i64 0]) (t := 31) ?hr ?_; (case hd => rfl); (case hg => rfl); (case hr => first | (go_simp; done) | (go_simp; rfl)); intro gb308 hg w42 hbox hb; have n0_ := Ext.a (Kd.V_below (Kd.V_elderB (Ext.nV HO_0.out) gb308 (Nat.le_of_eq hg.symm)) hb); have n1_ := Ext.a (Kd.R_below (Ext.nR HO296.out) hb); have n2_ := Ext.a (blk_below BK302.out hb); have n3_ := Ext.a (below_step (by repeat (first | (with_reducible first | exact HB.out | apply Ext.ba | apply Ext.bn | apply Ext.bd | refine Ext.bs ?_ GE302.out) | exact HB.out | exact .refl _ _)) hb); have n4_ := Ext.a (hbox); have n5_ := Ext.a ((by rw [hg]; exact (below_size (by repeat (first | (with_reducible first | exact HB.out | apply Ext.ba | apply Ext.bn | apply Ext.bd | refine Ext.bs ?_ GE302.out) | exact HB.out | exact .refl _ _))) : w.heap.size ≤ gb308)); have n6_ := Ext.a ((by rw [hg]; exact (below_size (by repeat (first | (with_reducible first | exact HB.out | apply Ext.ba | apply Ext.bn | apply Ext.bd | refine Ext.bs ?_ GE302.out) | exact HB.out | exact .refl _ _))) : w.heap.size ≤ gb308)); have n7_ := Ext.a ((by rw [hg]; exact Nat.ne_of_lt (blk_lt BK302.out) : gb302 ≠ gb308)); have n8_ := Ext.a ((by rw [hg]; exact Nat.ne_of_gt (blk_lt BK302.out) : gb308 ≠ gb302)); clear HO_0 HO296 BK302 HB; have HO_0 := n0_; have HO296 := n1_; have BK302 := n2_; have HB := n3_; have BK308 := n4_; have GW308 := n5_; have GE308 := n6_; have NB302_308 := n7_; have NB308_302 := n8_; clear n0_ n1_ n2_ n3_ n4_ n5_ n6_ n7_ n8_; clear hb hbox hg; have hnb43 := NB308_302.out; have hnc43 := NB302_308.out; obtain ⟨hcz44_0, hcz44_1, hcz44_2, hcz44_3⟩ := Ext.cells4 BK308.out; obtain ⟨hfz44_0, hfz44_1, hfz44_2, hfz44_3⟩ := Ext.froz4 BK308.out))
        have n0_ : Aside0 (Kd.V (Kd.int .u8) 5 ((((w42.setCell ⟨gb308, 0, none⟩ (.int .u64 t303)).setCell ⟨gb308, 1, none⟩ (.int .i64 t304)).setCell ⟨gb308, 2, none⟩ (.int .i64 t305)).setCell ⟨gb308, 3, none⟩ (.int .i64 t306)) w.heap.size (ok4_1 P0_ w (.slice Ao37 t294.length co37) gb302 gb308) (.slice Ao35 x0_10.length co35) x0_10) := ⟨by (with_reducible repeat (first | apply Kd.V_alloc | apply Kd.V_drewN | apply Kd.V_drew)); exact Kd.V_mono (Kd.V_far (p := ⟨gb308, 3, none⟩) (Kd.V_far (p := ⟨gb308, 2, none⟩) (Kd.V_far (p := ⟨gb308, 1, none⟩) (Kd.V_far (p := ⟨gb308, 0, none⟩) (Kd.V_mono HO_0.out (fun k_ hk => (⟨hk, hk.2⟩ : _ ∧ k_ ≠ gb308))) (fun _ hk => hk.2) (.int .u64 t303)) (fun _ hk => hk.2) (.int .i64 t304)) (fun _ hk => hk.2) (.int .i64 t305)) (fun _ hk => hk.2) (.int .i64 t306)) (fun _ hk => ⟨hk.1.1.1.1, ⟨hk.1.1.1.2, ⟨hk.1.1.2, hk.1.2⟩⟩⟩)⟩
        have n1_ : Aside0 (Kd.R (Kd.int .u8) 5 ((((w42.setCell ⟨gb308, 0, none⟩ (.int .u64 t303)).setCell ⟨gb308, 1, none⟩ (.int .i64 t304)).setCell ⟨gb308, 2, none⟩ (.int .i64 t305)).setCell ⟨gb308, 3, none⟩ (.int .i64 t306)) w.heap.size (ok4_2 w) (.slice Ao37 t294.length co37) t294) := ⟨by (with_reducible repeat (first | apply Kd.R_alloc | apply Kd.R_drewN | apply Kd.R_drew)); exact Kd.R_mono (Kd.R_far (p := ⟨gb308, 3, none⟩) (Kd.R_far (p := ⟨gb308, 2, none⟩) (Kd.R_far (p := ⟨gb308, 1, none⟩) (Kd.R_far (p := ⟨gb308, 0, none⟩) (Kd.R_types HO296.out BK308.out (by decide)) (fun _ hk => hk.2) (.int .u64 t303)) (fun _ hk => hk.2) (.int .i64 t304)) (fun _ hk => hk.2) (.int .i64 t305)) (fun _ hk => hk.2) (.int .i64 t306)) (fun _ hk => hk.1.1)⟩
        have n2_ : Aside0 (((((w42.setCell ⟨gb308, 0, none⟩ (.int .u64 t303)).setCell ⟨gb308, 1, none⟩ (.int .i64 t304)).setCell ⟨gb308, 2, none⟩ (.int .i64 t305)).setCell ⟨gb308, 3, none⟩ (.int .i64 t306)).heap[gb302]? = some (.cells #[.int .u64 t297, .int .i64 t298, .int .i64 t299, .int .i64 t300] 24 (0, 0))) := ⟨by refine blk_far ?_ NB302_308.out _; refine blk_far ?_ NB302_308.out _; refine blk_far ?_ NB302_308.out _; refine blk_far ?_ NB302_308.out _; exact BK302.out⟩
        have n3_ : Aside0 (((((w42.setCell ⟨gb308, 0, none⟩ (.int .u64 t303)).setCell ⟨gb308, 1, none⟩ (.int .i64 t304)).setCell ⟨gb308, 2, none⟩ (.int .i64 t305)).setCell ⟨gb308, 3, none⟩ (.int .i64 t306)).heap[gb308]? = some (.cells #[.int .u64 t303, .int .i64 t304, .int .i64 t305, .int .i64 t306] 31 (0, 0))) := ⟨by refine blk_put (cs := #[.int .u64 t303, .int .i64 t304, .int .i64 t305, .int .i64 0]) ?_ 3 _ rfl; refine blk_put (cs := #[.int .u64 t303, .int .i64 t304, .int .i64 0, .int .i64 0]) ?_ 2 _ rfl; refine blk_put (cs := #[.int .u64 t303, .int .i64 0, .int .i64 0, .int .i64 0]) ?_ 1 _ rfl; refine blk_put (cs := #[.int .u64 0, .int .i64 0, .int .i64 0, .int .i64 0]) ?_ 0 _ rfl; exact BK308.out⟩
        have n4_ : Aside0 (Below w.heap.size w ((((w42.setCell ⟨gb308, 0, none⟩ (.int .u64 t303)).setCell ⟨gb308, 1, none⟩ (.int .i64 t304)).setCell ⟨gb308, 2, none⟩ (.int .i64 t305)).setCell ⟨gb308, 3, none⟩ (.int .i64 t306))) := ⟨by repeat (first | (with_reducible first | exact HB.out | apply Ext.ba | apply Ext.bn | apply Ext.bd | refine Ext.bs ?_ GE302.out | refine Ext.bs ?_ GE308.out) | exact HB.out | exact .refl _ _)⟩
        (try clear HO_0)
        (try clear HO296)
        (try clear BK302)
        (try clear BK308)
        (try clear HB)
        generalize ((((w42.setCell ⟨gb308, 0, none⟩ (.int .u64 t303)).setCell ⟨gb308, 1, none⟩ (.int .i64 t304)).setCell ⟨gb308, 2, none⟩ (.int .i64 t305)).setCell ⟨gb308, 3, none⟩ (.int .i64 t306)) = w45 at n0_ n1_ n2_ n3_ n4_ ⊢
        have HO_0 := n0_
        have HO296 := n1_
        have BK302 := n2_
        have BK308 := n3_
        have HB := n4_
        clear n0_ n1_ n2_ n3_ n4_
        have n0_ := Ext.a (Kd.V_drew HO_0.out)
        have n1_ := Ext.a (Kd.R_drew HO296.out)
        have n2_ := Ext.a (blk_drew BK302.out)
        have n3_ := Ext.a (blk_drew BK308.out)
        have n4_ := Ext.a (below_drew1 HB.out)
        clear HO_0
        clear HO296
        clear BK302
        clear BK308
        clear HB
        have HO_0 := n0_
        have HO296 := n1_
        have BK302 := n2_
        have BK308 := n3_
        have HB := n4_
        clear n0_ n1_ n2_ n3_ n4_
        refine start_ (n := 15) (S := fun w' => w'.cell? ⟨gb302, 0, none⟩ = some (.int .u64 t297) ∧ w'.cell? ⟨gb302, 1, none⟩ = some (.int .i64 t298) ∧ w'.cell? ⟨gb302, 2, none⟩ = some (.int .i64 t299) ∧ w'.cell? ⟨gb302, 3, none⟩ = some (.int .i64 t300) ∧ w'.cell? ⟨gb308, 0, none⟩ = some (.int .u64 t303) ∧ w'.cell? ⟨gb308, 1, none⟩ = some (.int .i64 t304) ∧ w'.cell? ⟨gb308, 2, none⟩ = some (.int .i64 t305) ∧ w'.cell? ⟨gb308, 3, none⟩ = some (.int .i64 t306)) (ds := []) zb4_0 (by kernel_rfl) rfl rfl ⟨(blk_cell BK302.out 0).trans rfl, (blk_cell BK302.out 1).trans rfl, (blk_cell BK302.out 2).trans rfl, (blk_cell BK302.out 3).trans rfl, (blk_cell BK308.out 0).trans rfl, (blk_cell BK308.out 1).trans rfl, (blk_cell BK308.out 2).trans rfl, (blk_cell BK308.out 3).trans rfl⟩ (fun hHeld => ?_); refine with_tabW terrierlaw05_MetaReads.tab8 terrierlaw05_MetaReads.bits8 (fun HT_ HW_ => ?_)
        generalize w45.drew = w46 at HO_0 HO296 BK302 BK308 HB hHeld ⊢
        refine take_ (i := 0) (N := some 33) (v := ?_) (a' := ?_) zb4_1 rfl rfl (take_ofW HT_.out HW_.out (by kernel_rfl)) (fun _ _ _ h => h) (Or.inl ⟨by rfl, ?_⟩) hHeld ?_ ?_
        rotate_left
        · rintro w' ⟨s0, s1, s2, s3, s4, s5, s6, s7⟩; go_simp; with_reducible rfl
        rotate_left
        · simp only [Act.put, Ext.sb, Ext.sz, Ext.ss, i64_w, i32_w]; rfl
        refine take_ (i := 2) (N := some 35) (v := ?_) (a' := ?_) zb4_2 rfl rfl (take_ofW HT_.out HW_.out (by kernel_rfl)) (fun _ _ _ h => h) (Or.inl ⟨by rfl, ?_⟩) hHeld ?_ ?_
        rotate_left
        · rintro w' ⟨s0, s1, s2, s3, s4, s5, s6, s7⟩; go_simp; with_reducible rfl
        rotate_left
        · simp only [Act.put, Ext.sb, Ext.sz, Ext.ss, i64_w, i32_w]; rfl
        refine one_ (i := 1) (N := some 34) zb4_3 rfl rfl (one_of HT_.out (by kernel_rfl)) (by decide) (fun K hK => ?_)
        refine goes_ Try.func12 (by kernel_rfl) rfl #[.agg #[.int .u64 t297, .int .i64 t298, .int .i64 t299, .int .i64 t300]] (by rfl) rfl rfl (by (try simp only [List.map_toArray, List.map_cons, List.map_nil]); first | done | rfl | (simp only [List.length_drop, List.length_take]; rfl)) ?_
        with_reducible refine (terrierlaw05_of.calls t297 t298 t299 t300 t309 t310 t311 t312 _ A18.out).mono ?_
        rintro e w47 ⟨rfl, hb⟩
        refine ⟨_, rfl, ?_⟩
        have n0_ := Ext.a (Kd.V_below (Ext.nV HO_0.out) hb)
        have n1_ := Ext.a (Kd.R_below (Ext.nR HO296.out) hb)
        have n2_ := Ext.a (blk_below BK302.out hb)
        have n3_ := Ext.a (blk_below BK308.out hb)
        have n4_ := Ext.a (below_step (by repeat (first | (with_reducible first | exact HB.out | apply Ext.ba | apply Ext.bn | apply Ext.bd | refine Ext.bs ?_ GE302.out | refine Ext.bs ?_ GE308.out) | exact HB.out | exact .refl _ _)) hb)
        clear HO_0
        clear HO296
        clear BK302
        clear BK308
        clear HB
        have HO_0 := n0_
        have HO296 := n1_
        have BK302 := n2_
        have BK308 := n3_
        have HB := n4_
        clear n0_ n1_ n2_ n3_ n4_
        (try clear hb)
        (try clear hb2)
        (try clear hk)
        (try clear hi)
        refine hK.out _ _ ⟨(blk_cell BK302.out 0).trans rfl, (blk_cell BK302.out 1).trans rfl, (blk_cell BK302.out 2).trans rfl, (blk_cell BK302.out 3).trans rfl, (blk_cell BK308.out 0).trans rfl, (blk_cell BK308.out 1).trans rfl, (blk_cell BK308.out 2).trans rfl, (blk_cell BK308.out 3).trans rfl⟩ (fun hHeld => ?_)
        clear hK K
        refine norm_ (a' := ?_) ?_ ?_
        rotate_left
        · show Act.put _ (some 34) _ = _; simp only [Act.put, Ext.sb, Ext.sz, Ext.ss, i64_w, i32_w]; rfl
        refine pure_ (i := 3) (N := some 36) (v := ?_) (a' := ?_) zb4_4 rfl rfl (any_of HT_.out (by kernel_rfl)) (fun _ _ _ h => h) (Or.inl ⟨by rfl, ?_⟩) ?_ ?_
        rotate_left
        · intro w'; go_simp; with_reducible rfl
        rotate_left
        · simp only [Act.put, Ext.sb, Ext.sz, Ext.ss, i64_w, i32_w]; rfl
        refine pure_ (i := 4) (N := some 37) (v := ?_) (a' := ?_) zb4_5 rfl rfl (any_of HT_.out (by kernel_rfl)) (fun _ _ _ h => h) (Or.inl ⟨by rfl, ?_⟩) ?_ ?_
        rotate_left
        · intro w'; go_simp; with_reducible rfl
        rotate_left
        · simp only [Act.put, Ext.sb, Ext.sz, Ext.ss, i64_w, i32_w]; rfl
        refine pure_ (i := 5) (N := some 38) (v := ?_) (a' := ?_) zb4_6 rfl rfl (any_of HT_.out (by kernel_rfl)) (fun _ _ _ h => h) (Or.inl ⟨by rfl, ?_⟩) ?_ ?_
        rotate_left
        · intro w'; go_simp; with_reducible rfl
        rotate_left
        · simp only [Act.put, Ext.sb, Ext.sz, Ext.ss, i64_w, i32_w]; rfl
        refine pure_ (i := 6) (N := some 39) (v := ?_) (a' := ?_) zb4_7 rfl rfl (any_of HT_.out (by kernel_rfl)) (fun _ _ _ h => h) (Or.inl ⟨by rfl, ?_⟩) ?_ ?_
        rotate_left
        · intro w'; go_simp; with_reducible rfl
        rotate_left
        · simp only [Act.put, Ext.sb, Ext.sz, Ext.ss, i64_w, i32_w]; rfl
        refine pure_ (i := 7) (N := some 40) (v := ?_) (a' := ?_) zb4_8 rfl rfl (any_of HT_.out (by kernel_rfl)) (fun _ _ _ h => h) (Or.inl ⟨by rfl, ?_⟩) ?_ ?_
        rotate_left
        · intro w'; go_simp; with_reducible rfl
        rotate_left
        · simp only [Act.put, Ext.sb, Ext.sz, Ext.ss, i64_w, i32_w]; rfl
        refine pure_ (i := 8) (N := some 41) (v := ?_) (a' := ?_) zb4_9 rfl rfl (any_of HT_.out (by kernel_rfl)) (fun _ _ _ h => h) (Or.inl ⟨by rfl, ?_⟩) ?_ ?_
        rotate_left
        · intro w'; go_simp; with_reducible rfl
        rotate_left
        · simp only [Act.put, Ext.sb, Ext.sz, Ext.ss, i64_w, i32_w]; rfl
        refine pure_ (i := 9) (N := some 42) (v := ?_) (a' := ?_) zb4_10 rfl rfl (any_of HT_.out (by kernel_rfl)) (fun _ _ _ h => h) (Or.inl ⟨by rfl, ?_⟩) ?_ ?_
        rotate_left
        · intro w'; go_simp; with_reducible rfl
        rotate_left
        · simp only [Act.put, Ext.sb, Ext.sz, Ext.ss, i64_w, i32_w]; rfl
        refine pure_ (i := 10) (N := some 43) (v := undef) (a' := ?_) zb4_11 rfl rfl (any_of HT_.out (by kernel_rfl)) (fun _ _ _ h => h) (Or.inr ⟨by rfl, rfl⟩) ?_ ?_
        rotate_left
        · simp only [Act.put, Ext.sb, Ext.sz, Ext.ss, i64_w, i32_w]; rfl
        refine pure_ (i := 11) (N := some 44) (v := undef) (a' := ?_) zb4_12 rfl rfl (any_of HT_.out (by kernel_rfl)) (fun _ _ _ h => h) (Or.inr ⟨by rfl, rfl⟩) ?_ ?_
        rotate_left
        · simp only [Act.put, Ext.sb, Ext.sz, Ext.ss, i64_w, i32_w]; rfl
        refine pure_ (i := 12) (N := some 45) (v := undef) (a' := ?_) zb4_13 rfl rfl (any_of HT_.out (by kernel_rfl)) (fun _ _ _ h => h) (Or.inr ⟨by rfl, rfl⟩) ?_ ?_
        rotate_left
        · simp only [Act.put, Ext.sb, Ext.sz, Ext.ss, i64_w, i32_w]; rfl
        refine pure_ (i := 13) (N := some 46) (v := ?_) (a' := ?_) zb4_14 rfl rfl (any_of HT_.out (by kernel_rfl)) (fun _ _ _ h => h) (Or.inl ⟨by rfl, ?_⟩) ?_ ?_
        rotate_left
        · intro w'; go_simp; with_reducible rfl
        rotate_left
        · simp only [Act.put, Ext.sb, Ext.sz, Ext.ss, i64_w, i32_w]; rfl
        refine pure_ (i := 14) (N := some 4) (v := ?_) (a' := ?_) zb4_15 rfl rfl (any_of HT_.out (by kernel_rfl)) (fun _ _ _ h => h) (Or.inl ⟨by rfl, ?_⟩) ?_ ?_
        rotate_left
        · intro w'; go_simp; with_reducible rfl
        rotate_left
        · simp only [Act.put, Ext.sb, Ext.sz, Ext.ss, i64_w, i32_w]; rfl
        refine done_ (done_of HT_.out (by kernel_rfl)) ?_
        try go_wp2
        go_ret
        exact ⟨by first | rfl | (simp [errW_none, errW_some] <;> rfl) | (simp [*, errW_none, errW_some] <;> rfl), by repeat (first | (with_reducible first | exact HB.out | apply Ext.ba | apply Ext.bn | apply Ext.bd | refine Ext.bs ?_ GE302.out | refine Ext.bs ?_ GE308.out) | exact HB.out | exact .refl _ _)⟩
      ·
       rw [if_neg c19] at H
       have c19b0 : (t309 == t303 && (t310 == t304 && (t311 == t305 && (t312 == t306)))) = false := by simpa using c19
       (try (have c19b1 : decide (t309 = t303 && (t310 == t304 && (t311 == t305 && (t312 == t306)))) = false := by simpa using c19))
       (try (have c19b2 : (t309 == t303 && (t310 == t304 && (t311 == t305 && (t312 == t306)))) = false := by simpa using c19))
       (try (have c19b3 : ¬ (t309 = t303 && (t310 == t304 && (t311 == t305 && (t312 == t306)))) := by simpa using c19))
       clear c19
       obtain rfl := Option.some.inj H
       obtain ⟨Ao48, co48, eo48⟩ := Kd.V_slice HO_0.out
       subst eo48
       try go_wp2_with (first | ((with_reducible refine gate_callee (f := 17) rfl ?_); refine goesL_ (some 22) rfl rfl Try.func17 (by kernel_rfl) rfl #[.slice Ao48 x0_10.length co48] rfl (by (try simp only [List.map_toArray, List.map_cons, List.map_nil]); first | done | rfl | (simp only [List.length_drop, List.length_take]; rfl)) ?_; (with_reducible refine (terrierref01_Twin.calls _ _ x0_10 t294 _ ?side1 ?side2 A15.out).mono ?_); (case side1 => exact Ext.nC (Kd.V_reads' HO_0.out).2.2); (case side2 => exact (Kd.V_reads' HO_0.out).2.1); rintro e w49 ⟨v295, rfl, ho0, hb⟩; refine ⟨_, rfl, ?_⟩; have n0_ := Ext.a (Kd.V_elder' (Ext.nV HO_0.out) (Kd.R_base ho0) hb); have n1_ := Ext.a (Kd.R_lower (Kd.R_newM (M := fun k_ => (w.heap.size ≤ k_)) ho0 (below_size (Ext.nB HB.out)) (fun k_ h_ => h_)) (below_size (Ext.nB HB.out))); have n2_ := Ext.a (below_step (Ext.nB HB.out) hb); clear HO_0 HB; have HO_0 := n0_; have HO296 := n1_; have HB := n2_; clear n0_ n1_ n2_; (try clear hb); (try clear hb2); (try clear hk); (try clear hi); (try clear ho0); obtain ⟨Ao50, co50, eo50⟩ := Kd.R_slice HO296.out; subst eo50) | ((with_reducible refine gate_callee (f := 18) rfl ?_); refine goesL_ (some 25) rfl rfl Try.func18 (by kernel_rfl) rfl #[.slice Ao50 t294.length co50] rfl (by (try simp only [List.map_toArray, List.map_cons, List.map_nil]); first | done | rfl | (simp only [List.length_drop, List.length_take]; rfl)) ?_; (with_reducible refine (meta_Decode.calls kj10 _ _ t294 t297 t298 t299 t300 t301 _ ?side1 ?side2 A16.out).mono ?_); (case side1 => exact Ext.nC (Kd.R_reads' HO296.out).2.2); (case side2 => exact (Kd.R_reads' HO296.out).2.1); rintro e w51 ⟨rfl, hb⟩; refine ⟨_, rfl, ?_⟩; have n0_ := Ext.a (Kd.V_below (Ext.nV HO_0.out) hb); have n1_ := Ext.a (Kd.R_below (Ext.nR HO296.out) hb); have n2_ := Ext.a (below_step (Ext.nB HB.out) hb); clear HO_0 HO296 HB; have HO_0 := n0_; have HO296 := n1_; have HB := n2_; clear n0_ n1_ n2_; (try clear hb); (try clear hb2); (try clear hk); (try clear hi)) | ((with_reducible refine gate_dst (N := 6) rfl ?_); (try (refine gate_guard (by rfl) ?_; dsimp only)); refine box_event ?hg (N := 6) ?hd (cs := #[.int .u64 0, .int .i64 0, .int .i64 0, .int .i64 0]) (t := 24) ?hr ?_; (case hd => rfl); (case hg => rfl); (case hr => first | (go_simp; done) | (go_simp; rfl)); intro gb302 hg w52 hbox hb; have n0_ := Ext.a (Kd.V_below (Kd.V_elderB (Ext.nV HO_0.out) gb302 (Nat.le_of_eq hg.symm)) hb); have n1_ := Ext.a (Kd.R_below (Ext.nR HO296.out) hb); have n2_ := Ext.a (below_step (Ext.nB HB.out) hb); have n3_ := Ext.a (hbox); have n4_ := Ext.a ((by rw [hg]; exact (below_size (Ext.nB HB.out)) : w.heap.size ≤ gb302)); have n5_ := Ext.a ((by rw [hg]; exact (below_size (Ext.nB HB.out)) : w.heap.size ≤ gb302)); clear HO_0 HO296 HB; have HO_0 := n0_; have HO296 := n1_; have HB := n2_; have BK302 := n3_; have GW302 := n4_; have GE302 := n5_; clear n0_ n1_ n2_ n3_ n4_ n5_; clear hb hbox hg; obtain ⟨hcz53_0, hcz53_1, hcz53_2, hcz53_3⟩ := Ext.cells4 BK302.out; obtain ⟨hfz53_0, hfz53_1, hfz53_2, hfz53_3⟩ := Ext.froz4 BK302.out) | ((with_reducible refine gate_callee (f := 19) rfl ?_); refine goesL_ (some 30) rfl rfl Try.func19 (by kernel_rfl) rfl #[.slice Ao48 x0_10.length co48] rfl (by (try simp only [List.map_toArray, List.map_cons, List.map_nil]); first | done | rfl | (simp only [List.length_drop, List.length_take]; rfl)) ?_; (with_reducible refine (terrierref05_Decode.calls kj10 _ _ x0_10 t303 t304 t305 t306 t307 _ ?side1 ?side2 A17.out).mono ?_); (case side1 => refine (Kd.V_reads' (e := 5) (base := w.heap.size) (ok := fun k_ => (((P0_ k_ ∨ w.heap.size ≤ k_) ∧ some k_ ≠ (.slice Ao50 t294.length co50 : Value).ownBlock) ∧ k_ ≠ gb302)) (n := x0_10.length) (c := co48) ?_).2.2; exact (Ext.nV ((Kd.V_mono (Kd.V_far (p := ⟨gb302, 3, none⟩) (Kd.V_far (p := ⟨gb302, 2, none⟩) (Kd.V_far (p := ⟨gb302, 1, none⟩) (Kd.V_far (p := ⟨gb302, 0, none⟩) (Kd.V_mono HO_0.out (fun k_ hk => (⟨hk, hk.2⟩ : _ ∧ k_ ≠ gb302))) (fun _ hk => hk.2) (.int .u64 t297)) (fun _ hk => hk.2) (.int .i64 t298)) (fun _ hk => hk.2) (.int .i64 t299)) (fun _ hk => hk.2) (.int .i64 t300)) (fun _ h_ => h_.1))))); (case side2 => exact (Kd.V_reads' HO_0.out).2.1); rintro e w54 ⟨rfl, hb⟩; refine ⟨_, rfl, ?_⟩; have n0_ := Ext.a (Kd.V_below (Ext.nV ((Kd.V_mono (Kd.V_far (p := ⟨gb302, 3, none⟩) (Kd.V_far (p := ⟨gb302, 2, none⟩) (Kd.V_far (p := ⟨gb302, 1, none⟩) (Kd.V_far (p := ⟨gb302, 0, none⟩) (Kd.V_mono HO_0.out (fun k_ hk => (⟨hk, hk.2⟩ : _ ∧ k_ ≠ gb302))) (fun _ hk => hk.2) (.int .u64 t297)) (fun _ hk => hk.2) (.int .i64 t298)) (fun _ hk => hk.2) (.int .i64 t299)) (fun _ hk => hk.2) (.int .i64 t300)) (fun _ h_ => h_.1)))) hb); have n1_ := Ext.a (Kd.R_below (Ext.nR ((Ext.far4 HO296.out BK302.out (by decide) (.int .u64 t297) (.int .i64 t298) (.int .i64 t299) (.int .i64 t300)))) hb); have n2_ := Ext.a (blk_below (g := gb302) (o := .cells #[.int .u64 t297, .int .i64 t298, .int .i64 t299, .int .i64 t300] 24 (0, 0)) (by exact Ext.puts4 BK302.out) hb); have n3_ := Ext.a (below_step (by repeat (first | (with_reducible first | exact HB.out | apply Ext.ba | apply Ext.bn | apply Ext.bd | refine Ext.bs ?_ GE302.out) | exact HB.out | exact .refl _ _)) hb); clear HO_0 HO296 BK302 HB; have HO_0 := n0_; have HO296 := n1_; have BK302 := n2_; have HB := n3_; clear n0_ n1_ n2_ n3_; (try clear hb); (try clear hb2); (try clear hk); (try clear hi)) | ((with_reducible refine gate_dst (N := 8) rfl ?_); (try (refine gate_guard (by rfl) ?_; dsimp only)); refine box_event ?hg (N := 8) ?hd (cs := #[.int .u64 0, .int .i64 0, .int .i64 0, .int .i64 0]) (t := 31) ?hr ?_; (case hd => rfl); (case hg => rfl); (case hr => first | (go_simp; done) | (go_simp; rfl)); intro gb308 hg w55 hbox hb; have n0_ := Ext.a (Kd.V_below (Kd.V_elderB (Ext.nV HO_0.out) gb308 (Nat.le_of_eq hg.symm)) hb); have n1_ := Ext.a (Kd.R_below (Ext.nR HO296.out) hb); have n2_ := Ext.a (blk_below BK302.out hb); have n3_ := Ext.a (below_step (by repeat (first | (with_reducible first | exact HB.out | apply Ext.ba | apply Ext.bn | apply Ext.bd | refine Ext.bs ?_ GE302.out) | exact HB.out | exact .refl _ _)) hb); have n4_ := Ext.a (hbox); have n5_ := Ext.a ((by rw [hg]; exact (below_size (by repeat (first | (with_reducible first | exact HB.out | apply Ext.ba | apply Ext.bn | apply Ext.bd | refine Ext.bs ?_ GE302.out) | exact HB.out | exact .refl _ _))) : w.heap.size ≤ gb308)); have n6_ := Ext.a ((by rw [hg]; exact (below_size (by repeat (first | (with_reducible first | exact HB.out | apply Ext.ba | apply Ext.bn | apply Ext.bd | refine Ext.bs ?_ GE302.out) | exact HB.out | exact .refl _ _))) : w.heap.size ≤ gb308)); have n7_ := Ext.a ((by rw [hg]; exact Nat.ne_of_lt (blk_lt BK302.out) : gb302 ≠ gb308)); have n8_ := Ext.a ((by rw [hg]; exact Nat.ne_of_gt (blk_lt BK302.out) : gb308 ≠ gb302)); clear HO_0 HO296 BK302 HB; have HO_0 := n0_; have HO296 := n1_; have BK302 := n2_; have HB := n3_; have BK308 := n4_; have GW308 := n5_; have GE308 := n6_; have NB302_308 := n7_; have NB308_302 := n8_; clear n0_ n1_ n2_ n3_ n4_ n5_ n6_ n7_ n8_; clear hb hbox hg; have hnb56 := NB308_302.out; have hnc56 := NB302_308.out; obtain ⟨hcz57_0, hcz57_1, hcz57_2, hcz57_3⟩ := Ext.cells4 BK308.out; obtain ⟨hfz57_0, hfz57_1, hfz57_2, hfz57_3⟩ := Ext.froz4 BK308.out))
       have n0_ : Aside0 (Kd.V (Kd.int .u8) 5 ((((w55.setCell ⟨gb308, 0, none⟩ (.int .u64 t303)).setCell ⟨gb308, 1, none⟩ (.int .i64 t304)).setCell ⟨gb308, 2, none⟩ (.int .i64 t305)).setCell ⟨gb308, 3, none⟩ (.int .i64 t306)) w.heap.size (ok4_1 P0_ w (.slice Ao50 t294.length co50) gb302 gb308) (.slice Ao48 x0_10.length co48) x0_10) := ⟨by (with_reducible repeat (first | apply Kd.V_alloc | apply Kd.V_drewN | apply Kd.V_drew)); exact Kd.V_mono (Kd.V_far (p := ⟨gb308, 3, none⟩) (Kd.V_far (p := ⟨gb308, 2, none⟩) (Kd.V_far (p := ⟨gb308, 1, none⟩) (Kd.V_far (p := ⟨gb308, 0, none⟩) (Kd.V_mono HO_0.out (fun k_ hk => (⟨hk, hk.2⟩ : _ ∧ k_ ≠ gb308))) (fun _ hk => hk.2) (.int .u64 t303)) (fun _ hk => hk.2) (.int .i64 t304)) (fun _ hk => hk.2) (.int .i64 t305)) (fun _ hk => hk.2) (.int .i64 t306)) (fun _ hk => ⟨hk.1.1.1.1, ⟨hk.1.1.1.2, ⟨hk.1.1.2, hk.1.2⟩⟩⟩)⟩
       have n1_ : Aside0 (Kd.R (Kd.int .u8) 5 ((((w55.setCell ⟨gb308, 0, none⟩ (.int .u64 t303)).setCell ⟨gb308, 1, none⟩ (.int .i64 t304)).setCell ⟨gb308, 2, none⟩ (.int .i64 t305)).setCell ⟨gb308, 3, none⟩ (.int .i64 t306)) w.heap.size (ok4_2 w) (.slice Ao50 t294.length co50) t294) := ⟨by (with_reducible repeat (first | apply Kd.R_alloc | apply Kd.R_drewN | apply Kd.R_drew)); exact Kd.R_mono (Kd.R_far (p := ⟨gb308, 3, none⟩) (Kd.R_far (p := ⟨gb308, 2, none⟩) (Kd.R_far (p := ⟨gb308, 1, none⟩) (Kd.R_far (p := ⟨gb308, 0, none⟩) (Kd.R_types HO296.out BK308.out (by decide)) (fun _ hk => hk.2) (.int .u64 t303)) (fun _ hk => hk.2) (.int .i64 t304)) (fun _ hk => hk.2) (.int .i64 t305)) (fun _ hk => hk.2) (.int .i64 t306)) (fun _ hk => hk.1.1)⟩
       have n2_ : Aside0 (((((w55.setCell ⟨gb308, 0, none⟩ (.int .u64 t303)).setCell ⟨gb308, 1, none⟩ (.int .i64 t304)).setCell ⟨gb308, 2, none⟩ (.int .i64 t305)).setCell ⟨gb308, 3, none⟩ (.int .i64 t306)).heap[gb302]? = some (.cells #[.int .u64 t297, .int .i64 t298, .int .i64 t299, .int .i64 t300] 24 (0, 0))) := ⟨by refine blk_far ?_ NB302_308.out _; refine blk_far ?_ NB302_308.out _; refine blk_far ?_ NB302_308.out _; refine blk_far ?_ NB302_308.out _; exact BK302.out⟩
       have n3_ : Aside0 (((((w55.setCell ⟨gb308, 0, none⟩ (.int .u64 t303)).setCell ⟨gb308, 1, none⟩ (.int .i64 t304)).setCell ⟨gb308, 2, none⟩ (.int .i64 t305)).setCell ⟨gb308, 3, none⟩ (.int .i64 t306)).heap[gb308]? = some (.cells #[.int .u64 t303, .int .i64 t304, .int .i64 t305, .int .i64 t306] 31 (0, 0))) := ⟨by refine blk_put (cs := #[.int .u64 t303, .int .i64 t304, .int .i64 t305, .int .i64 0]) ?_ 3 _ rfl; refine blk_put (cs := #[.int .u64 t303, .int .i64 t304, .int .i64 0, .int .i64 0]) ?_ 2 _ rfl; refine blk_put (cs := #[.int .u64 t303, .int .i64 0, .int .i64 0, .int .i64 0]) ?_ 1 _ rfl; refine blk_put (cs := #[.int .u64 0, .int .i64 0, .int .i64 0, .int .i64 0]) ?_ 0 _ rfl; exact BK308.out⟩
       have n4_ : Aside0 (Below w.heap.size w ((((w55.setCell ⟨gb308, 0, none⟩ (.int .u64 t303)).setCell ⟨gb308, 1, none⟩ (.int .i64 t304)).setCell ⟨gb308, 2, none⟩ (.int .i64 t305)).setCell ⟨gb308, 3, none⟩ (.int .i64 t306))) := ⟨by repeat (first | (with_reducible first | exact HB.out | apply Ext.ba | apply Ext.bn | apply Ext.bd | refine Ext.bs ?_ GE302.out | refine Ext.bs ?_ GE308.out) | exact HB.out | exact .refl _ _)⟩
       (try clear HO_0)
       (try clear HO296)
       (try clear BK302)
       (try clear BK308)
       (try clear HB)
       generalize ((((w55.setCell ⟨gb308, 0, none⟩ (.int .u64 t303)).setCell ⟨gb308, 1, none⟩ (.int .i64 t304)).setCell ⟨gb308, 2, none⟩ (.int .i64 t305)).setCell ⟨gb308, 3, none⟩ (.int .i64 t306)) = w58 at n0_ n1_ n2_ n3_ n4_ ⊢
       have HO_0 := n0_
       have HO296 := n1_
       have BK302 := n2_
       have BK308 := n3_
       have HB := n4_
       clear n0_ n1_ n2_ n3_ n4_
       have n0_ := Ext.a (Kd.V_drew HO_0.out)
       have n1_ := Ext.a (Kd.R_drew HO296.out)
       have n2_ := Ext.a (blk_drew BK302.out)
       have n3_ := Ext.a (blk_drew BK308.out)
       have n4_ := Ext.a (below_drew1 HB.out)
       clear HO_0
       clear HO296
       clear BK302
       clear BK308
       clear HB
       have HO_0 := n0_
       have HO296 := n1_
       have BK302 := n2_
       have BK308 := n3_
       have HB := n4_
       clear n0_ n1_ n2_ n3_ n4_
       refine start_ (n := 15) (S := fun w' => w'.cell? ⟨gb302, 0, none⟩ = some (.int .u64 t297) ∧ w'.cell? ⟨gb302, 1, none⟩ = some (.int .i64 t298) ∧ w'.cell? ⟨gb302, 2, none⟩ = some (.int .i64 t299) ∧ w'.cell? ⟨gb302, 3, none⟩ = some (.int .i64 t300) ∧ w'.cell? ⟨gb308, 0, none⟩ = some (.int .u64 t303) ∧ w'.cell? ⟨gb308, 1, none⟩ = some (.int .i64 t304) ∧ w'.cell? ⟨gb308, 2, none⟩ = some (.int .i64 t305) ∧ w'.cell? ⟨gb308, 3, none⟩ = some (.int .i64 t306)) (ds := []) zb4_0 (by kernel_rfl) rfl rfl ⟨(blk_cell BK302.out 0).trans rfl, (blk_cell BK302.out 1).trans rfl, (blk_cell BK302.out 2).trans rfl, (blk_cell BK302.out 3).trans rfl, (blk_cell BK308.out 0).trans rfl, (blk_cell BK308.out 1).trans rfl, (blk_cell BK308.out 2).trans rfl, (blk_cell BK308.out 3).trans rfl⟩ (fun hHeld => ?_); refine with_tabW terrierlaw05_MetaReads.tab8 terrierlaw05_MetaReads.bits8 (fun HT_ HW_ => ?_)
       generalize w58.drew = w59 at HO_0 HO296 BK302 BK308 HB hHeld ⊢
       refine take_ (i := 0) (N := some 33) (v := ?_) (a' := ?_) zb4_1 rfl rfl (take_ofW HT_.out HW_.out (by kernel_rfl)) (fun _ _ _ h => h) (Or.inl ⟨by rfl, ?_⟩) hHeld ?_ ?_
       rotate_left
       · rintro w' ⟨s0, s1, s2, s3, s4, s5, s6, s7⟩; go_simp; with_reducible rfl
       rotate_left
       · simp only [Act.put, Ext.sb, Ext.sz, Ext.ss, i64_w, i32_w]; rfl
       refine take_ (i := 2) (N := some 35) (v := ?_) (a' := ?_) zb4_2 rfl rfl (take_ofW HT_.out HW_.out (by kernel_rfl)) (fun _ _ _ h => h) (Or.inl ⟨by rfl, ?_⟩) hHeld ?_ ?_
       rotate_left
       · rintro w' ⟨s0, s1, s2, s3, s4, s5, s6, s7⟩; go_simp; with_reducible rfl
       rotate_left
       · simp only [Act.put, Ext.sb, Ext.sz, Ext.ss, i64_w, i32_w]; rfl
       refine one_ (i := 1) (N := some 34) zb4_3 rfl rfl (one_of HT_.out (by kernel_rfl)) (by decide) (fun K hK => ?_)
       refine goes_ Try.func12 (by kernel_rfl) rfl #[.agg #[.int .u64 t297, .int .i64 t298, .int .i64 t299, .int .i64 t300]] (by rfl) rfl rfl (by (try simp only [List.map_toArray, List.map_cons, List.map_nil]); first | done | rfl | (simp only [List.length_drop, List.length_take]; rfl)) ?_
       with_reducible refine (terrierlaw05_of.calls t297 t298 t299 t300 t309 t310 t311 t312 _ A18.out).mono ?_
       rintro e w60 ⟨rfl, hb⟩
       refine ⟨_, rfl, ?_⟩
       have n0_ := Ext.a (Kd.V_below (Ext.nV HO_0.out) hb)
       have n1_ := Ext.a (Kd.R_below (Ext.nR HO296.out) hb)
       have n2_ := Ext.a (blk_below BK302.out hb)
       have n3_ := Ext.a (blk_below BK308.out hb)
       have n4_ := Ext.a (below_step (by repeat (first | (with_reducible first | exact HB.out | apply Ext.ba | apply Ext.bn | apply Ext.bd | refine Ext.bs ?_ GE302.out | refine Ext.bs ?_ GE308.out) | exact HB.out | exact .refl _ _)) hb)
       clear HO_0
       clear HO296
       clear BK302
       clear BK308
       clear HB
       have HO_0 := n0_
       have HO296 := n1_
       have BK302 := n2_
       have BK308 := n3_
       have HB := n4_
       clear n0_ n1_ n2_ n3_ n4_
       (try clear hb)
       (try clear hb2)
       (try clear hk)
       (try clear hi)
       refine hK.out _ _ ⟨(blk_cell BK302.out 0).trans rfl, (blk_cell BK302.out 1).trans rfl, (blk_cell BK302.out 2).trans rfl, (blk_cell BK302.out 3).trans rfl, (blk_cell BK308.out 0).trans rfl, (blk_cell BK308.out 1).trans rfl, (blk_cell BK308.out 2).trans rfl, (blk_cell BK308.out 3).trans rfl⟩ (fun hHeld => ?_)
       clear hK K
       refine norm_ (a' := ?_) ?_ ?_
       rotate_left
       · show Act.put _ (some 34) _ = _; simp only [Act.put, Ext.sb, Ext.sz, Ext.ss, i64_w, i32_w]; rfl
       refine pure_ (i := 3) (N := some 36) (v := ?_) (a' := ?_) zb4_4 rfl rfl (any_of HT_.out (by kernel_rfl)) (fun _ _ _ h => h) (Or.inl ⟨by rfl, ?_⟩) ?_ ?_
       rotate_left
       · intro w'; go_simp; with_reducible rfl
       rotate_left
       · simp only [Act.put, Ext.sb, Ext.sz, Ext.ss, i64_w, i32_w]; rfl
       refine pure_ (i := 4) (N := some 37) (v := ?_) (a' := ?_) zb4_5 rfl rfl (any_of HT_.out (by kernel_rfl)) (fun _ _ _ h => h) (Or.inl ⟨by rfl, ?_⟩) ?_ ?_
       rotate_left
       · intro w'; go_simp; with_reducible rfl
       rotate_left
       · simp only [Act.put, Ext.sb, Ext.sz, Ext.ss, i64_w, i32_w]; rfl
       refine pure_ (i := 5) (N := some 38) (v := undef) (a' := ?_) zb4_6 rfl rfl (any_of HT_.out (by kernel_rfl)) (fun _ _ _ h => h) (Or.inr ⟨by rfl, rfl⟩) ?_ ?_
       rotate_left
       · simp only [Act.put, Ext.sb, Ext.sz, Ext.ss, i64_w, i32_w]; rfl
       refine pure_ (i := 6) (N := some 39) (v := undef) (a' := ?_) zb4_7 rfl rfl (any_of HT_.out (by kernel_rfl)) (fun _ _ _ h => h) (Or.inr ⟨by rfl, rfl⟩) ?_ ?_
       rotate_left
       · simp only [Act.put, Ext.sb, Ext.sz, Ext.ss, i64_w, i32_w]; rfl
       refine pure_ (i := 7) (N := some 40) (v := undef) (a' := ?_) zb4_8 rfl rfl (any_of HT_.out (by kernel_rfl)) (fun _ _ _ h => h) (Or.inr ⟨by rfl, rfl⟩) ?_ ?_
       rotate_left
       · simp only [Act.put, Ext.sb, Ext.sz, Ext.ss, i64_w, i32_w]; rfl
       refine pure_ (i := 8) (N := some 41) (v := ?_) (a' := ?_) zb4_9 rfl rfl (any_of HT_.out (by kernel_rfl)) (fun _ _ _ h => h) (Or.inl ⟨by rfl, ?_⟩) ?_ ?_
       rotate_left
       · intro w'; go_simp; with_reducible rfl
       rotate_left
       · simp only [Act.put, Ext.sb, Ext.sz, Ext.ss, i64_w, i32_w]; rfl
       refine pure_ (i := 9) (N := some 42) (v := ?_) (a' := ?_) zb4_10 rfl rfl (any_of HT_.out (by kernel_rfl)) (fun _ _ _ h => h) (Or.inl ⟨by rfl, ?_⟩) ?_ ?_
       rotate_left
       · intro w'; go_simp; with_reducible rfl
       rotate_left
       · simp only [Act.put, Ext.sb, Ext.sz, Ext.ss, i64_w, i32_w]; rfl
       refine pure_ (i := 10) (N := some 43) (v := undef) (a' := ?_) zb4_11 rfl rfl (any_of HT_.out (by kernel_rfl)) (fun _ _ _ h => h) (Or.inr ⟨by rfl, rfl⟩) ?_ ?_
       rotate_left
       · simp only [Act.put, Ext.sb, Ext.sz, Ext.ss, i64_w, i32_w]; rfl
       refine pure_ (i := 11) (N := some 44) (v := undef) (a' := ?_) zb4_12 rfl rfl (any_of HT_.out (by kernel_rfl)) (fun _ _ _ h => h) (Or.inr ⟨by rfl, rfl⟩) ?_ ?_
       rotate_left
       · simp only [Act.put, Ext.sb, Ext.sz, Ext.ss, i64_w, i32_w]; rfl
       refine pure_ (i := 12) (N := some 45) (v := undef) (a' := ?_) zb4_13 rfl rfl (any_of HT_.out (by kernel_rfl)) (fun _ _ _ h => h) (Or.inr ⟨by rfl, rfl⟩) ?_ ?_
       rotate_left
       · simp only [Act.put, Ext.sb, Ext.sz, Ext.ss, i64_w, i32_w]; rfl
       refine pure_ (i := 13) (N := some 46) (v := ?_) (a' := ?_) zb4_14 rfl rfl (any_of HT_.out (by kernel_rfl)) (fun _ _ _ h => h) (Or.inl ⟨by rfl, ?_⟩) ?_ ?_
       rotate_left
       · intro w'; go_simp; with_reducible rfl
       rotate_left
       · simp only [Act.put, Ext.sb, Ext.sz, Ext.ss, i64_w, i32_w]; rfl
       refine pure_ (i := 14) (N := some 4) (v := ?_) (a' := ?_) zb4_15 rfl rfl (any_of HT_.out (by kernel_rfl)) (fun _ _ _ h => h) (Or.inl ⟨by rfl, ?_⟩) ?_ ?_
       rotate_left
       · intro w'; go_simp; with_reducible rfl
       rotate_left
       · simp only [Act.put, Ext.sb, Ext.sz, Ext.ss, i64_w, i32_w]; rfl
       refine done_ (done_of HT_.out (by kernel_rfl)) ?_
       try go_wp2
       go_ret
       exact ⟨by first | rfl | (simp [errW_none, errW_some] <;> rfl) | (simp [*, errW_none, errW_some] <;> rfl), by repeat (first | (with_reducible first | exact HB.out | apply Ext.ba | apply Ext.bn | apply Ext.bd | refine Ext.bs ?_ GE302.out | refine Ext.bs ?_ GE308.out) | exact HB.out | exact .refl _ _)⟩

/-- THE ONE PURE STATEMENT of terrierlaw05_MetaReads: yours. -/
def terrierlaw05_MetaReads.Pure : Prop := ∀ (l0 : List Int) (a1 : Bool), (Open.okSlice (fun y_ => (Lit.int .u8 y_).wf = true) 1 l0) → ∃ k, terrierlaw05_MetaReads.f k l0 a1 = some true
theorem terrierlaw05_MetaReads.walk (P : terrierlaw05_MetaReads.Pure) (A0 : Option Addr) (c0 : Nat) (l0 : List Int) (a1 : Bool) (w : World) (hk0 : Open.okSlice (fun y_ => (Lit.int .u8 y_).wf = true) 1 l0) (hr0 : Kd.C (Kd.int .u8) w A0 l0.length l0) (hc0 : l0.length ≤ c0) :
  Calls Try.prog 4 #[.slice A0 l0.length c0, .bool a1] w fun e w' => e = .returned (.bool true) ∧ Below w.heap.size w w' := by
 obtain ⟨k, h⟩ := P l0 a1 hk0
 refine (terrierlaw05_MetaReads.calls k (fun k_ => k_ < w.heap.size) _ _ l0 a1 true w (Kd.V_mk hc0 (Kd.C_F (Kd.heap_int .u8) hr0)) h).mono ?_
 rintro e w' ⟨rfl, hd⟩
 exact ⟨rfl, hd⟩

end Go.Proofs.Ytfkihcdonddcoaa.PR
