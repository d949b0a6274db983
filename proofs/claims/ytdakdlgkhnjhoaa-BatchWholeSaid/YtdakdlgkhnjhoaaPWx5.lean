-- Written by wip/printx.py, a program of this work over the kit's print, for this claim.
import Derived.Test.YtdakdlgkhnjhoaaPWx0
import Derived.Test.YtdakdlgkhnjhoaaPWx1
import Derived.Test.YtdakdlgkhnjhoaaPWx4
namespace Go.Proofs.Ytdakdlgkhnjhoaa.PW
open Go.RowKit Go.Proofs.YtdakdlgkhnjhoaaW.PrintWords Go.Proofs.YtdakdlgkhnjhoaaW.PrintLast Go.Proofs.YtdakdlgkhnjhoaaW.PrintMore
attribute [local go_sem] max2_int min2_int max_two min_two max_three min_three max_four min_four   -- for this text's walks alone
attribute [local go_sem] Ext.pick_u8 Ext.pick_u32 Ext.pick_u64
set_option linter.unusedVariables false
set_option linter.unusedSimpArgs false


/-! ### batch_Cut: function 18 -/
def batch_Cut.f (k : Nat) (l0 : List (S38)) (a1 : Int) : Option ((List (S38)) × (List (S38))) := (batch_cut.f k l0 a1).bind fun t160 => (if 0 ≤ t160 then (if t160 ≤ (l0.length : Int) then ((batch_twins.f k (l0.take (t160 : Int).toNat)).bind fun t165 => ((batch_twins.f k (l0.drop (t160 : Int).toNat)).bind fun t172 => (some (t165, t172)))) else (none)) else (none))
theorem batch_Cut.mono : ∀ a0 a1 k, LeO (batch_Cut.f k a0 a1) (batch_Cut.f (k + 1) a0 a1) := by
 intro a0 a1 k
 unfold batch_Cut.f
 repeat' first
   | (with_reducible exact batch_cut.mono _ _ _)
   | (with_reducible exact batch_twins.mono _ _)
   | (with_reducible exact LeO.refl _)
   | (with_reducible exact LeO.none _)
   | (with_reducible refine LeO.ite ?_ ?_)
   | (with_reducible refine LeO.bind ?_ (fun _ => ?_))
   | exact batch_cut.mono _ _ _
   | exact batch_twins.mono _ _
   | exact LeO.none _
   | refine LeO.ite ?_ ?_
   | refine LeO.bind ?_ (fun _ => ?_)
def batch_Cut.T2 : Bool × List (List Nat × List Nat) := (true, [([], []), ([], []), ([], []), ([0, 1, 2], [0, 1, 2]), ([3], [3]), ([], []), ([], []), ([5, 6], [5, 6]), ([7, 4], [7]), ([4, 8, 0, 1, 2, 3, 4], [4]), ([8, 9, 0, 1, 2, 3, 4, 5, 6, 7, 8, 9], [8])])
def batch_Cut.B2 : List Nat := [0, 0, 0, 7, 15, 0, 0, 96, 255, 511, 1023]
theorem batch_Cut.tab2 : rtab .any (opsOf Try.f18 2) = batch_Cut.T2 := by kernel_rfl
theorem batch_Cut.bits2 : waitsOk batch_Cut.T2.2 batch_Cut.B2 = true := by kernel_rfl
set_option maxHeartbeats 8000000 in
set_option maxRecDepth 100000 in
theorem batch_Cut.calls (k : Nat) (A0 : Option Addr) (c0 : Nat) (l0 : List (S38)) (a1 : Int) (r1 : List (S38)) (r2 : List (S38)) (w : World) (hr0 : Kd.C k38 w A0 l0.length l0) (hc0 : l0.length ≤ c0) (h : batch_Cut.f k l0 a1 = some (r1, r2)) :
  Calls Try.prog 18 #[.slice A0 l0.length c0, .int .i64 a1] w fun e w' => ∃ v0_ v1_ : Value, e = .returned (.tuple #[v0_, v1_]) ∧ Kd.S k38 38 w' w.heap.size (fun k_ => some k_ ≠ (v1_ : Value).ownBlock) v0_ r1 ∧ Kd.S k38 38 w' w.heap.size (fun k_ => some k_ ≠ (v0_ : Value).ownBlock) v1_ r2 ∧ Below w.heap.size w w' := by
 have HR0 := Aside0.mk hr0
 have HC0 := Aside0.mk hc0
 clear hr0 hc0
 have HB := Aside0.mk (Below.refl w.heap.size w)
 have H : ((batch_cut.f k l0 a1).bind fun t160 => (if 0 ≤ t160 then (if t160 ≤ (l0.length : Int) then ((batch_twins.f k (l0.take (t160 : Int).toNat)).bind fun t165 => ((batch_twins.f k (l0.drop (t160 : Int).toNat)).bind fun t172 => (some (t165, t172)))) else (none)) else (none))) = some (r1, r2) := h
 clear h
 replace H := Option.bind_eq_some_iff.mp H
 obtain ⟨t160, A30, H⟩ := H
 replace H : (if 0 ≤ t160 then (if t160 ≤ (l0.length : Int) then ((batch_twins.f k (l0.take (t160 : Int).toNat)).bind fun t165 => ((batch_twins.f k (l0.drop (t160 : Int).toNat)).bind fun t172 => (some (t165, t172)))) else (none)) else (none)) = some (r1, r2) := H
 have A3 := Aside0.mk A30
 clear A30
 by_cases c4 : 0 ≤ t160
 ·
  rw [if_pos c4] at H
  have c4b0 := eq_true c4
  have c4b1 : decide (0 ≤ t160) = true := decide_eq_true c4
  clear c4
  by_cases c5 : t160 ≤ (l0.length : Int)
  ·
   rw [if_pos c5] at H
   have c5b0 := eq_true c5
   have c5b1 : decide (t160 ≤ (l0.length : Int)) = true := decide_eq_true c5
   clear c5
   obtain ⟨y161, hy161⟩ : ∃ y_ : List (S38), y_ = (l0.take (t160 : Int).toNat) := ⟨_, rfl⟩
   replace H : ((batch_twins.f k y161).bind fun t165 => ((batch_twins.f k (l0.drop (t160 : Int).toNat)).bind fun t172 => (some (t165, t172)))) = some (r1, r2) := by first | (rw [hy161]; with_reducible exact H) | (have H2_ := (Option.bind_some _ _).symm.trans H; rw [hy161]; with_reducible exact H2_) | (have H2_ := (Option.bind_some _ _).symm.trans H; with_reducible exact H2_) | with_reducible exact H | (rw [hy161]; exact H) | exact H
   have Ny161 := Aside0.mk hy161
   clear hy161
   replace H := Option.bind_eq_some_iff.mp H
   obtain ⟨t165, A60, H⟩ := H
   replace H : ((batch_twins.f k (l0.drop (t160 : Int).toNat)).bind fun t172 => (some (t165, t172))) = some (r1, r2) := H
   have A6 := Aside0.mk A60
   clear A60
   have c7b0 := eq_true (of_decide_eq_true (by first | (with_reducible assumption) | assumption) : 0 ≤ t160)
   have c8b0 := eq_true (of_decide_eq_true (by first | (with_reducible assumption) | assumption) : t160 ≤ (l0.length : Int))
   obtain ⟨y168, hy168⟩ : ∃ y_ : List (S38), y_ = (l0.drop (t160 : Int).toNat) := ⟨_, rfl⟩
   replace H : ((batch_twins.f k y168).bind fun t172 => (some (t165, t172))) = some (r1, r2) := by first | (rw [hy168]; with_reducible exact H) | (have H2_ := (Option.bind_some _ _).symm.trans H; rw [hy168]; with_reducible exact H2_) | (have H2_ := (Option.bind_some _ _).symm.trans H; with_reducible exact H2_) | with_reducible exact H | (rw [hy168]; exact H) | exact H
   have Ny168 := Aside0.mk hy168
   clear hy168
   replace H := Option.bind_eq_some_iff.mp H
   obtain ⟨t172, A90, H⟩ := H
   replace H : (some (t165, t172)) = some (r1, r2) := H
   have A9 := Aside0.mk A90
   clear A90
   simp only [Option.some.injEq, Prod.mk.injEq] at H
   obtain ⟨rfl, rfl⟩ := H
   go_enter Try.func18, Try.ntmps18
   try go_wp2_with (first | ((with_reducible refine gate_callee (f := 29) rfl ?_); refine goesL_ (some 9) rfl rfl Try.func29 (by kernel_rfl) rfl #[.slice A0 l0.length c0, .int .i64 a1] rfl (by (try simp only [List.map_toArray, List.map_cons, List.map_nil]); first | done | rfl | (simp only [List.length_drop, List.length_take]; rfl)) ?_; (with_reducible refine (batch_cut.calls k _ _ l0 a1 t160 _ ?side1 ?side2 A3.out).mono ?_); (case side1 => repeat (first | exact HR0.out | exact HR0.out | (with_reducible refine Kd.C_alloc ?_ _) | (with_reducible refine Kd.C_drewN ?_ _) | (with_reducible refine Kd.C_drew ?_))); (case side2 => exact HC0.out); rintro e w' ⟨rfl, ⟨nd, rfl⟩⟩; refine ⟨_, rfl, ?_⟩))
   have n0_ := Aside0.mk (below_drew1 HB.out)
   clear HB
   have HB := n0_
   clear n0_
   have q11 : (t160 : Int) ≤ ((l0.length : Int) : Int) := of_decide_eq_true (by first | (with_reducible assumption) | assumption)
   obtain ⟨i011, hi011, _, hsz11, _⟩ := info_parts info38
   have hroom11 : l0.length ≤ c0 := HC0.out
   have hC11 : Kd.C k38 _ A0 l0.length l0 := HR0.out
   have hcut11 := Ext.cut_to3 (P := Try.prog) 22 38 .i64 Try.underlying22 hi011 A0 l0.length c0 t160 (of_decide_eq_true (by first | (with_reducible assumption) | assumption)) q11 hroom11
   have hr11 := Kd.C_take (m := (t160 : Int).toNat) hC11 (by omega)
   have hy11 : y161.length = (t160 : Int).toNat := (by rw [Ny161.out, List.length_take]; omega)
   rw [← Ny161.out] at hr11
   rw [← hy11] at hcut11
   have HR164 := Aside0.mk hr11
   have HC164 := Aside0.mk (show y161.length ≤ y161.length from by omega)
   clear hr11 hC11 hroom11 hi011 hsz11
   have KY11 := Aside0.mk hy11
   clear hy11
   replace q11 := eq_true q11
   have q12 : (t160 : Int) ≤ ((l0.length : Int) : Int) := of_decide_eq_true (by first | (with_reducible assumption) | assumption)
   obtain ⟨i012, hi012, _, hsz12, _⟩ := info_parts info38
   have hroom12 : l0.length ≤ c0 := HC0.out
   have hC12 : Kd.C k38 _ A0 l0.length l0 := HR0.out
   have q012 : (0 : Int) ≤ (t160 : Int) := of_decide_eq_true (by first | (with_reducible assumption) | assumption)
   have hcut12 := cut_from (P := Try.prog) 22 38 .i64 Try.underlying22 hi012 14 hsz12 A0 l0.length c0 t160 q012 q12
   have hr12 := Kd.C_drop (m := (t160 : Int).toNat) (c := c0) hC12 (by omega) hroom12
   obtain ⟨A12, hA12⟩ : ∃ A1, A1 = (if c0 = (t160 : Int).toNat then A0 else (A0 : Option Addr).map (·.add ((t160 : Int).toNat * 14))) := ⟨_, rfl⟩
   obtain ⟨c12, hc12⟩ : ∃ c1, c1 = c0 - (t160 : Int).toNat := ⟨_, rfl⟩
   have hy12 : y168.length = l0.length - (t160 : Int).toNat := (by rw [Ny168.out, List.length_drop] <;> omega)
   rw [show (l0).drop (t160 : Int).toNat = y168 from Ny168.out.symm] at hr12
   replace hr12 : Kd.C k38 _ A12 y168.length y168 := (by rw [hA12]; exact hr12)
   rw [← hy12, ← hA12, ← hc12] at hcut12
   have HR171 := Aside0.mk hr12
   have HC171 := Aside0.mk (show y168.length ≤ c12 from by rw [hy12, hc12]; exact Nat.sub_le_sub_right hroom12 _)
   clear hr12 hC12 hroom12 hi012 hsz12 hc12
   have KY12 := Aside0.mk hy12
   have KA12 := Aside0.mk hA12
   clear hy12 hA12
   replace q12 := eq_true q12
   refine start_ (n := 11) (S := fun w' => True) (ds := []) #[false, false, false, false, false, false, false, false, false, false, false] (by kernel_rfl) rfl rfl trivial (fun hHeld => ?_); refine with_tabW batch_Cut.tab2 batch_Cut.bits2 (fun HT_ HW_ => ?_)
   generalize w.drew = w10 at HB HR164 HR171 hHeld ⊢
   refine pure_ (i := 0) (N := some 10) (v := ?_) (a' := ?_) #[true, false, false, false, false, false, false, false, false, false, false] rfl rfl (any_of HT_.out (by kernel_rfl)) (fun _ _ _ h => h) (Or.inl ⟨by rfl, ?_⟩) ?_ ?_
   rotate_left
   · intro w'; go_simp; with_reducible rfl
   rotate_left
   · simp only [Act.put, List.setIfInBounds_toArray, List.set_cons_zero, List.set_cons_succ, i64_w, i32_w]; rfl
   refine pure_ (i := 1) (N := some 11) (v := ?_) (a' := ?_) #[true, true, false, false, false, false, false, false, false, false, false] rfl rfl (any_of HT_.out (by kernel_rfl)) (fun _ _ _ h => h) (Or.inl ⟨by rfl, ?_⟩) ?_ ?_
   rotate_left
   · intro w'; go_simp; with_reducible rfl
   rotate_left
   · simp only [Act.put, List.setIfInBounds_toArray, List.set_cons_zero, List.set_cons_succ, i64_w, i32_w]; rfl
   refine pure_ (i := 2) (N := some 12) (v := ?_) (a' := ?_) #[true, true, true, false, false, false, false, false, false, false, false] rfl rfl (any_of HT_.out (by kernel_rfl)) (fun _ _ _ h => h) (Or.inl ⟨by rfl, ?_⟩) ?_ ?_
   rotate_left
   · intro w'; go_simp; with_reducible rfl
   rotate_left
   · simp only [Act.put, List.setIfInBounds_toArray, List.set_cons_zero, List.set_cons_succ, i64_w, i32_w]; rfl
   refine pure_ (i := 3) (N := some 13) (v := ?_) (a' := ?_) #[true, true, true, true, false, false, false, false, false, false, false] rfl rfl (any_of HT_.out (by kernel_rfl)) (fun _ _ _ h => h) (Or.inl ⟨by rfl, ?_⟩) ?_ ?_
   rotate_left
   · intro w'; go_simp; with_reducible rfl
   rotate_left
   · simp only [Act.put, List.setIfInBounds_toArray, List.set_cons_zero, List.set_cons_succ, i64_w, i32_w]; rfl
   refine pure_ (i := 5) (N := some 15) (v := ?_) (a' := ?_) #[true, true, true, true, false, true, false, false, false, false, false] rfl rfl (any_of HT_.out (by kernel_rfl)) (fun _ _ _ h => h) (Or.inl ⟨by rfl, ?_⟩) ?_ ?_
   rotate_left
   · intro w'; go_simp; with_reducible rfl
   rotate_left
   · simp only [Act.put, List.setIfInBounds_toArray, List.set_cons_zero, List.set_cons_succ, i64_w, i32_w]; rfl
   refine pure_ (i := 6) (N := some 16) (v := ?_) (a' := ?_) #[true, true, true, true, false, true, true, false, false, false, false] rfl rfl (any_of HT_.out (by kernel_rfl)) (fun _ _ _ h => h) (Or.inl ⟨by rfl, ?_⟩) ?_ ?_
   rotate_left
   · intro w'; go_simp; with_reducible rfl
   rotate_left
   · simp only [Act.put, List.setIfInBounds_toArray, List.set_cons_zero, List.set_cons_succ, i64_w, i32_w]; rfl
   refine pure_ (i := 7) (N := some 17) (v := ?_) (a' := ?_) #[true, true, true, true, false, true, true, true, false, false, false] rfl rfl (any_of HT_.out (by kernel_rfl)) (fun _ _ _ h => h) (Or.inl ⟨by rfl, ?_⟩) ?_ ?_
   rotate_left
   · intro w'; go_simp; with_reducible rfl
   rotate_left
   · simp only [Act.put, List.setIfInBounds_toArray, List.set_cons_zero, List.set_cons_succ, i64_w, i32_w]; rfl
   refine one_ (i := 4) (N := some 14) #[true, true, true, true, true, true, true, true, false, false, false] rfl rfl (one_of HT_.out (by kernel_rfl)) (by decide) (fun K hK => ?_)
   refine goes_ Try.func30 (by kernel_rfl) rfl #[.slice A0 y161.length y161.length] (by rfl) rfl rfl (by (try simp only [List.map_toArray, List.map_cons, List.map_nil]); first | done | rfl | (simp only [List.length_drop, List.length_take]; rfl)) ?_
   with_reducible refine (batch_twins.calls k _ _ y161 t165 _ ?side1 ?side2 A6.out).mono ?_
   (case side1 => repeat (first | exact (Kd.C_below HR164.out HB.out) | exact HR164.out | (with_reducible refine Kd.C_alloc ?_ _) | (with_reducible refine Kd.C_drewN ?_ _) | (with_reducible refine Kd.C_drew ?_)))
   (case side2 => exact HC164.out)
   rintro e w13 ⟨v166, rfl, ho0, hb⟩
   refine ⟨_, rfl, ?_⟩
   have n0_ := Aside0.mk (Kd.S_lower ho0 (below_size (by repeat (first | (with_reducible first | exact HB.out | apply below_alloc | apply pw_below_drewN | apply below_drew1) | exact HB.out | exact Below.refl _ _))))
   have n1_ := Aside0.mk (below_step (by repeat (first | (with_reducible first | exact HB.out | apply below_alloc | apply pw_below_drewN | apply below_drew1) | exact HB.out | exact Below.refl _ _)) hb)
   clear HB
   have HO167 := n0_
   have HB := n1_
   clear n0_ n1_
   (try clear hb)
   (try clear hb2)
   (try clear hk)
   (try clear hi)
   (try clear ho0)
   refine hK.out _ _ trivial (fun hHeld => ?_)
   clear hK K
   refine norm_ (a' := ?_) ?_ ?_
   rotate_left
   · show Act.put _ (some 14) _ = _; simp only [Act.put, List.setIfInBounds_toArray, List.set_cons_zero, List.set_cons_succ, i64_w, i32_w]; rfl
   refine one_ (i := 8) (N := some 18) #[true, true, true, true, true, true, true, true, true, false, false] rfl rfl (one_of HT_.out (by kernel_rfl)) (by decide) (fun K hK => ?_)
   refine goes_ Try.func30 (by kernel_rfl) rfl #[.slice A12 y168.length c12] (by rfl) rfl rfl (by (try simp only [List.map_toArray, List.map_cons, List.map_nil]); first | done | rfl | (simp only [List.length_drop, List.length_take]; rfl)) ?_
   with_reducible refine (batch_twins.calls k _ _ y168 t172 _ ?side1 ?side2 A9.out).mono ?_
   (case side1 => repeat (first | exact (Kd.C_below HR171.out HB.out) | exact HR171.out | (with_reducible refine Kd.C_alloc ?_ _) | (with_reducible refine Kd.C_drewN ?_ _) | (with_reducible refine Kd.C_drew ?_)))
   (case side2 => exact HC171.out)
   rintro e w14 ⟨v173, rfl, ho0, hb⟩
   refine ⟨_, rfl, ?_⟩
   have n0_ := Aside0.mk (Kd.S_elder' (by (with_reducible repeat (first | apply Kd.S_alloc | apply Kd.S_drewN | apply Kd.S_drew)); exact HO167.out) (Kd.S_base ho0) hb)
   have n1_ := Aside0.mk (Kd.S_lower (Kd.S_new' ho0 (Kd.S_lt (by (with_reducible repeat (first | apply Kd.S_alloc | apply Kd.S_drewN | apply Kd.S_drew)); exact HO167.out))) (below_size (by repeat (first | (with_reducible first | exact HB.out | apply below_alloc | apply pw_below_drewN | apply below_drew1) | exact HB.out | exact Below.refl _ _))))
   have n2_ := Aside0.mk (below_step (by repeat (first | (with_reducible first | exact HB.out | apply below_alloc | apply pw_below_drewN | apply below_drew1) | exact HB.out | exact Below.refl _ _)) hb)
   clear HO167
   clear HB
   have HO167 := n0_
   have HO174 := n1_
   have HB := n2_
   clear n0_ n1_ n2_
   (try clear hb)
   (try clear hb2)
   (try clear hk)
   (try clear hi)
   (try clear ho0)
   refine hK.out _ _ trivial (fun hHeld => ?_)
   clear hK K
   refine norm_ (a' := ?_) ?_ ?_
   rotate_left
   · show Act.put _ (some 18) _ = _; simp only [Act.put, List.setIfInBounds_toArray, List.set_cons_zero, List.set_cons_succ, i64_w, i32_w]; rfl
   refine pure_ (i := 9) (N := some 4) (v := ?_) (a' := ?_) #[true, true, true, true, true, true, true, true, true, true, false] rfl rfl (any_of HT_.out (by kernel_rfl)) (fun _ _ _ h => h) (Or.inl ⟨by rfl, ?_⟩) ?_ ?_
   rotate_left
   · intro w'; go_simp; with_reducible rfl
   rotate_left
   · simp only [Act.put, List.setIfInBounds_toArray, List.set_cons_zero, List.set_cons_succ, i64_w, i32_w]; rfl
   refine pure_ (i := 10) (N := some 5) (v := ?_) (a' := ?_) #[true, true, true, true, true, true, true, true, true, true, true] rfl rfl (any_of HT_.out (by kernel_rfl)) (fun _ _ _ h => h) (Or.inl ⟨by rfl, ?_⟩) ?_ ?_
   rotate_left
   · intro w'; go_simp; with_reducible rfl
   rotate_left
   · simp only [Act.put, List.setIfInBounds_toArray, List.set_cons_zero, List.set_cons_succ, i64_w, i32_w]; rfl
   refine done_ (done_of HT_.out (by kernel_rfl)) ?_
   try go_wp2
   go_ret2
   exact ⟨_, _, by first | rfl | (simp [errW_none, errW_some] <;> rfl) | (simp [*, errW_none, errW_some] <;> rfl), by (with_reducible repeat (first | apply Kd.S_alloc | apply Kd.S_drewN | apply Kd.S_drew)); exact Kd.S_mono HO167.out (fun _ hk => hk.2), by (with_reducible repeat (first | apply Kd.S_alloc | apply Kd.S_drewN | apply Kd.S_drew)); exact Kd.S_mono HO174.out (fun _ hk => hk.2), by repeat (first | (with_reducible first | exact HB.out | apply below_alloc | apply pw_below_drewN | apply below_drew1) | exact HB.out | exact Below.refl _ _)⟩
  · rw [if_neg c5] at H; exact absurd H (by simp)
 · rw [if_neg c4] at H; exact absurd H (by simp)

end Go.Proofs.Ytdakdlgkhnjhoaa.PW
