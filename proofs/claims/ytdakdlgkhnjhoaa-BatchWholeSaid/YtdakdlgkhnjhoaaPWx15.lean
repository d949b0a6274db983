-- Written by wip/printx.py, a program of this work over the kit's print, for this claim.
import Derived.Test.YtdakdlgkhnjhoaaPWx0
import Derived.Test.YtdakdlgkhnjhoaaPWx6
import Derived.Test.YtdakdlgkhnjhoaaPWx7
import Derived.Test.YtdakdlgkhnjhoaaPWx10
import Derived.Test.YtdakdlgkhnjhoaaPWx11
import Derived.Test.YtdakdlgkhnjhoaaPWx14
namespace Go.Proofs.Ytdakdlgkhnjhoaa.PW
open Go.RowKit Go.Proofs.YtdakdlgkhnjhoaaW.PrintWords Go.Proofs.YtdakdlgkhnjhoaaW.PrintLast Go.Proofs.YtdakdlgkhnjhoaaW.PrintMore
attribute [local go_sem] max2_int min2_int max_two min_two max_three min_three max_four min_four   -- for this text's walks alone
attribute [local go_sem] Ext.pick_u8 Ext.pick_u32 Ext.pick_u64
set_option linter.unusedVariables false
set_option linter.unusedSimpArgs false



theorem rn5_ {α : Type} {d : Kd α} {e : Nat} {w : World} {base b : Nat} {A : Nat → Prop} {v : Value} {xs : List α} (h : Kd.R d e w base (fun k => b ≤ k) v xs) : Kd.N d e w base (fun k => A k ∨ b ≤ k) v xs := Kd.N_mono (Kd.R_N h) (fun _ h_ => Or.inr h_)
/-! ### terrierlaw17_BatchWhole: function 5 -/
mutual
def terrierlaw17_BatchWhole.j0 : Nat → List (S38) → Int → Bool → Option (Bool)
 | 0, _, _, _ => none
 | k + 1, x0, x1, x20 => if x20 = true then ((terrierlaw17_lives.f k).bind fun t248 => (some t248)) else ((batch_Split.f k x0 x1).bind fun t249 => (terrierlaw17_BatchWhole.l0 k x0 x1 ([] : List (S38)) 0 t249 (t249.length : Int) 0))
def terrierlaw17_BatchWhole.l0 : Nat → List (S38) → Int → List (S38) → Int → List (List (S38)) → Int → Int → Option (Bool)
 | 0, _, _, _, _, _, _, _ => none
 | k + 1, x0, x1, x5, x6, x24, x25, x26 => if x26 < x25 then (if 0 ≤ x26 then (if x26 < (x24.length : Int) then (if ((rd_L6 x24 x26).length : Int) = 0 then (some false) else (if x26 > 0 then (if 0 < ((rd_L6 x24 x26).length : Int) then (if ((rd_T38 (rd_L6 x24 x26) 0).f1.f3) = x6 then (some false) else (if ((rd_L6 x24 x26).length : Int) > (mx x1 1) then (if 0 ≤ (wrap64 (((rd_L6 x24 x26).length : Int) - 1)) then (if (wrap64 (((rd_L6 x24 x26).length : Int) - 1)) < ((rd_L6 x24 x26).length : Int) then (if ((rd_T38 (rd_L6 x24 x26) 0).f1.f3) = ((rd_T38 (rd_L6 x24 x26) (wrap64 (((rd_L6 x24 x26).length : Int) - 1))).f1.f3) then (if x5.length + (rd_L6 x24 x26).length < 799644820200 then (terrierlaw17_BatchWhole.l0 k x0 x1 (x5 ++ (rd_L6 x24 x26)) ((rd_T38 (rd_L6 x24 x26) (wrap64 (((rd_L6 x24 x26).length : Int) - 1))).f1.f3) x24 x25 (wrap64 (x26 + 1))) else (none)) else (some false)) else (none)) else (none)) else (if 0 ≤ (wrap64 (((rd_L6 x24 x26).length : Int) - 1)) then (if (wrap64 (((rd_L6 x24 x26).length : Int) - 1)) < ((rd_L6 x24 x26).length : Int) then (if x5.length + (rd_L6 x24 x26).length < 799644820200 then (terrierlaw17_BatchWhole.l0 k x0 x1 (x5 ++ (rd_L6 x24 x26)) ((rd_T38 (rd_L6 x24 x26) (wrap64 (((rd_L6 x24 x26).length : Int) - 1))).f1.f3) x24 x25 (wrap64 (x26 + 1))) else (none)) else (none)) else (none)))) else (none)) else (if ((rd_L6 x24 x26).length : Int) > (mx x1 1) then (if 0 < ((rd_L6 x24 x26).length : Int) then (if 0 ≤ (wrap64 (((rd_L6 x24 x26).length : Int) - 1)) then (if (wrap64 (((rd_L6 x24 x26).length : Int) - 1)) < ((rd_L6 x24 x26).length : Int) then (if ((rd_T38 (rd_L6 x24 x26) 0).f1.f3) = ((rd_T38 (rd_L6 x24 x26) (wrap64 (((rd_L6 x24 x26).length : Int) - 1))).f1.f3) then (if x5.length + (rd_L6 x24 x26).length < 799644820200 then (terrierlaw17_BatchWhole.l0 k x0 x1 (x5 ++ (rd_L6 x24 x26)) ((rd_T38 (rd_L6 x24 x26) (wrap64 (((rd_L6 x24 x26).length : Int) - 1))).f1.f3) x24 x25 (wrap64 (x26 + 1))) else (none)) else (some false)) else (none)) else (none)) else (none)) else (if 0 ≤ (wrap64 (((rd_L6 x24 x26).length : Int) - 1)) then (if (wrap64 (((rd_L6 x24 x26).length : Int) - 1)) < ((rd_L6 x24 x26).length : Int) then (if x5.length + (rd_L6 x24 x26).length < 799644820200 then (terrierlaw17_BatchWhole.l0 k x0 x1 (x5 ++ (rd_L6 x24 x26)) ((rd_T38 (rd_L6 x24 x26) (wrap64 (((rd_L6 x24 x26).length : Int) - 1))).f1.f3) x24 x25 (wrap64 (x26 + 1))) else (none)) else (none)) else (none))))) else (none)) else (none)) else ((terrierref17_Same.f k x5 x0).bind fun t274 => (if t274 = true then ((batch_Same.f k x5 x0).bind fun t275 => (some t275)) else (some false)))
end
def terrierlaw17_BatchWhole.f (k : Nat) (l0 : List (S38)) (a1 : Int) : Option (Bool) := (terrierlaw17_lives.f k).bind fun t245 => (if t245 = true then ((terrierlaw17_few.f k l0).bind fun t246 => (if t246 = true then ((batch_Right.f k l0).bind fun t247 => (terrierlaw17_BatchWhole.j0 k l0 a1 (!t247))) else (terrierlaw17_BatchWhole.j0 k l0 a1 true))) else (terrierlaw17_BatchWhole.j0 k l0 a1 true))
theorem terrierlaw17_BatchWhole.mono_l : ∀ k, (∀ y0 y1 y2, LeO (terrierlaw17_BatchWhole.j0 k y0 y1 y2) (terrierlaw17_BatchWhole.j0 (k + 1) y0 y1 y2)) ∧ (∀ y0 y1 y2 y3 y4 y5 y6, LeO (terrierlaw17_BatchWhole.l0 k y0 y1 y2 y3 y4 y5 y6) (terrierlaw17_BatchWhole.l0 (k + 1) y0 y1 y2 y3 y4 y5 y6))
 | 0 => ⟨fun _ _ _ r h => by simp [terrierlaw17_BatchWhole.j0] at h, fun _ _ _ _ _ _ _ r h => by simp [terrierlaw17_BatchWhole.l0] at h⟩
 | k + 1 => by
  obtain ⟨ih0, ih1⟩ := terrierlaw17_BatchWhole.mono_l k
  refine ⟨?_, ?_⟩
  ·
   intro y0 y1 y2
   unfold terrierlaw17_BatchWhole.j0
   repeat' first
   | (with_reducible exact ih0 _ _ _)
   | (with_reducible exact ih1 _ _ _ _ _ _ _)
   | (with_reducible exact batch_Right.mono _ _)
   | (with_reducible exact batch_Same.mono _ _ _)
   | (with_reducible exact batch_Split.mono _ _ _)
   | (with_reducible exact terrierlaw17_few.mono _ _)
   | (with_reducible exact terrierlaw17_lives.mono _)
   | (with_reducible exact terrierref17_Same.mono _ _ _)
   | (with_reducible exact LeO.refl _)
   | (with_reducible exact LeO.none _)
   | (with_reducible refine LeO.ite ?_ ?_)
   | (with_reducible refine LeO.bind ?_ (fun _ => ?_))
   | exact ih0 _ _ _
   | exact ih1 _ _ _ _ _ _ _
   | exact batch_Right.mono _ _
   | exact batch_Same.mono _ _ _
   | exact batch_Split.mono _ _ _
   | exact terrierlaw17_few.mono _ _
   | exact terrierlaw17_lives.mono _
   | exact terrierref17_Same.mono _ _ _
   | exact LeO.none _
   | refine LeO.ite ?_ ?_
   | refine LeO.bind ?_ (fun _ => ?_)
  ·
   intro y0 y1 y2 y3 y4 y5 y6
   unfold terrierlaw17_BatchWhole.l0
   repeat' first
   | (with_reducible exact ih0 _ _ _)
   | (with_reducible exact ih1 _ _ _ _ _ _ _)
   | (with_reducible exact batch_Right.mono _ _)
   | (with_reducible exact batch_Same.mono _ _ _)
   | (with_reducible exact batch_Split.mono _ _ _)
   | (with_reducible exact terrierlaw17_few.mono _ _)
   | (with_reducible exact terrierlaw17_lives.mono _)
   | (with_reducible exact terrierref17_Same.mono _ _ _)
   | (with_reducible exact LeO.refl _)
   | (with_reducible exact LeO.none _)
   | (with_reducible refine LeO.ite ?_ ?_)
   | (with_reducible refine LeO.bind ?_ (fun _ => ?_))
   | exact ih0 _ _ _
   | exact ih1 _ _ _ _ _ _ _
   | exact batch_Right.mono _ _
   | exact batch_Same.mono _ _ _
   | exact batch_Split.mono _ _ _
   | exact terrierlaw17_few.mono _ _
   | exact terrierlaw17_lives.mono _
   | exact terrierref17_Same.mono _ _ _
   | exact LeO.none _
   | refine LeO.ite ?_ ?_
   | refine LeO.bind ?_ (fun _ => ?_)
theorem terrierlaw17_BatchWhole.mono : ∀ a0 a1 k, LeO (terrierlaw17_BatchWhole.f k a0 a1) (terrierlaw17_BatchWhole.f (k + 1) a0 a1) := by
 intro a0 a1 k
 obtain ⟨ih0, ih1⟩ := terrierlaw17_BatchWhole.mono_l k
 unfold terrierlaw17_BatchWhole.f
 repeat' first
   | (with_reducible exact ih0 _ _ _)
   | (with_reducible exact ih1 _ _ _ _ _ _ _)
   | (with_reducible exact batch_Right.mono _ _)
   | (with_reducible exact batch_Same.mono _ _ _)
   | (with_reducible exact batch_Split.mono _ _ _)
   | (with_reducible exact terrierlaw17_few.mono _ _)
   | (with_reducible exact terrierlaw17_lives.mono _)
   | (with_reducible exact terrierref17_Same.mono _ _ _)
   | (with_reducible exact LeO.refl _)
   | (with_reducible exact LeO.none _)
   | (with_reducible refine LeO.ite ?_ ?_)
   | (with_reducible refine LeO.bind ?_ (fun _ => ?_))
   | exact ih0 _ _ _
   | exact ih1 _ _ _ _ _ _ _
   | exact batch_Right.mono _ _
   | exact batch_Same.mono _ _ _
   | exact batch_Split.mono _ _ _
   | exact terrierlaw17_few.mono _ _
   | exact terrierlaw17_lives.mono _
   | exact terrierref17_Same.mono _ _ _
   | exact LeO.none _
   | refine LeO.ite ?_ ?_
   | refine LeO.bind ?_ (fun _ => ?_)
set_option maxHeartbeats 8000000 in
set_option maxRecDepth 100000 in
theorem terrierlaw17_BatchWhole.calls (k : Nat) (A0 : Option Addr) (c0 : Nat) (l0 : List (S38)) (a1 : Int) (r : Bool) (w : World) (hr0 : Kd.C k38 w A0 l0.length l0) (hc0 : l0.length ≤ c0) (h : terrierlaw17_BatchWhole.f k l0 a1 = some r) :
  Calls Try.prog 5 #[.slice A0 l0.length c0, .int .i64 a1] w fun e w' => e = .returned (.bool r) ∧ Below w.heap.size w w' := by
 have HR0 := Aside0.mk hr0
 have HC0 := Aside0.mk hc0
 clear hr0 hc0
 have HB := Ext.a (Below.refl w.heap.size w)
 have H : ((terrierlaw17_lives.f k).bind fun t245 => (if t245 = true then ((terrierlaw17_few.f k l0).bind fun t246 => (if t246 = true then ((batch_Right.f k l0).bind fun t247 => (terrierlaw17_BatchWhole.j0 k l0 a1 (!t247))) else (terrierlaw17_BatchWhole.j0 k l0 a1 true))) else (terrierlaw17_BatchWhole.j0 k l0 a1 true))) = some r := h
 clear h
 have HC3 := Aside0.mk H
 clear H
 go_enter Try.func5, Try.ntmps5
 go_upto_region 1 with (fail)
 repeat (go_quiet (fail); go_upto_region 1 with (fail))
 go_cut [20] (fun v20 wc => ∃ (kq : Nat) (x20_2 : Bool), v20 = .bool x20_2 ∧ Aside0 (terrierlaw17_BatchWhole.j0 kq l0 a1 x20_2 = some r) ∧ Aside0 (kq ≤ k) ∧ Aside0 (Below w.heap.size w wc))
 case first =>
  have H := HC3.out
  clear HC3
  replace H := Option.bind_eq_some_iff.mp H
  obtain ⟨t245, A40, H⟩ := H
  replace H : (if t245 = true then ((terrierlaw17_few.f k l0).bind fun t246 => (if t246 = true then ((batch_Right.f k l0).bind fun t247 => (terrierlaw17_BatchWhole.j0 k l0 a1 (!t247))) else (terrierlaw17_BatchWhole.j0 k l0 a1 true))) else (terrierlaw17_BatchWhole.j0 k l0 a1 true)) = some r := H
  have A4 := Aside0.mk A40
  clear A40
  by_cases c5 : t245 = true
  ·
   subst c5
   have H1 : ((terrierlaw17_few.f k l0).bind fun t246 => (if t246 = true then ((batch_Right.f k l0).bind fun t247 => (terrierlaw17_BatchWhole.j0 k l0 a1 (!t247))) else (terrierlaw17_BatchWhole.j0 k l0 a1 true))) = some r := by rw [if_pos rfl] at H; exact H
   clear H
   have H := H1
   clear H1
   replace H := Option.bind_eq_some_iff.mp H
   obtain ⟨t246, A60, H⟩ := H
   replace H : (if t246 = true then ((batch_Right.f k l0).bind fun t247 => (terrierlaw17_BatchWhole.j0 k l0 a1 (!t247))) else (terrierlaw17_BatchWhole.j0 k l0 a1 true)) = some r := H
   have A6 := Aside0.mk A60
   clear A60
   by_cases c7 : t246 = true
   ·
    subst c7
    have H1 : ((batch_Right.f k l0).bind fun t247 => (terrierlaw17_BatchWhole.j0 k l0 a1 (!t247))) = some r := by rw [if_pos rfl] at H; exact H
    clear H
    have H := H1
    clear H1
    replace H := Option.bind_eq_some_iff.mp H
    obtain ⟨t247, A80, H⟩ := H
    replace H : (terrierlaw17_BatchWhole.j0 k l0 a1 (!t247)) = some r := H
    have A8 := Aside0.mk A80
    clear A80
    have H' := Aside0.mk H
    clear H
    go_wp2_with (first | (go_at_call 7; (with_reducible refine (terrierlaw17_lives.calls k  true _ A4.out).mono ?_); rintro e w9 ⟨rfl, hb⟩; have n0_ := Ext.a (below_step (Ext.nB HB.out) hb); clear HB; have HB := n0_; clear n0_; (try clear hb); (try clear hb2); (try clear hk); (try clear hi)) | (go_at_call 8; (with_reducible refine (terrierlaw17_few.calls k _ _ l0 true _ ?side1 ?side2 A6.out).mono ?_); (case side1 => repeat (first | exact (Kd.C_below HR0.out HB.out) | exact HR0.out | (with_reducible refine Kd.C_alloc ?_ _) | (with_reducible refine Kd.C_drewN ?_ _) | (with_reducible refine Kd.C_drew ?_))); (case side2 => exact HC0.out); rintro e w10 ⟨rfl, hb⟩; have n0_ := Ext.a (below_step (Ext.nB HB.out) hb); clear HB; have HB := n0_; clear n0_; (try clear hb); (try clear hb2); (try clear hk); (try clear hi)) | (go_at_call 15; (with_reducible refine (batch_Right.calls k _ _ l0 t247 _ ?side1 ?side2 A8.out).mono ?_); (case side1 => repeat (first | exact (Kd.C_below HR0.out HB.out) | exact HR0.out | (with_reducible refine Kd.C_alloc ?_ _) | (with_reducible refine Kd.C_drewN ?_ _) | (with_reducible refine Kd.C_drew ?_))); (case side2 => exact HC0.out); rintro e w11 ⟨rfl, hb⟩; have n0_ := Ext.a (below_step (Ext.nB HB.out) hb); clear HB; have HB := n0_; clear n0_; (try clear hb); (try clear hb2); (try clear hk); (try clear hi)))
    repeat (go_quiet (first | (go_at_call 7; (with_reducible refine (terrierlaw17_lives.calls k  true _ A4.out).mono ?_); rintro e w9 ⟨rfl, hb⟩; have n0_ := Ext.a (below_step (Ext.nB HB.out) hb); clear HB; have HB := n0_; clear n0_; (try clear hb); (try clear hb2); (try clear hk); (try clear hi)) | (go_at_call 8; (with_reducible refine (terrierlaw17_few.calls k _ _ l0 true _ ?side1 ?side2 A6.out).mono ?_); (case side1 => repeat (first | exact (Kd.C_below HR0.out HB.out) | exact HR0.out | (with_reducible refine Kd.C_alloc ?_ _) | (with_reducible refine Kd.C_drewN ?_ _) | (with_reducible refine Kd.C_drew ?_))); (case side2 => exact HC0.out); rintro e w10 ⟨rfl, hb⟩; have n0_ := Ext.a (below_step (Ext.nB HB.out) hb); clear HB; have HB := n0_; clear n0_; (try clear hb); (try clear hb2); (try clear hk); (try clear hi)) | (go_at_call 15; (with_reducible refine (batch_Right.calls k _ _ l0 t247 _ ?side1 ?side2 A8.out).mono ?_); (case side1 => repeat (first | exact (Kd.C_below HR0.out HB.out) | exact HR0.out | (with_reducible refine Kd.C_alloc ?_ _) | (with_reducible refine Kd.C_drewN ?_ _) | (with_reducible refine Kd.C_drew ?_))); (case side2 => exact HC0.out); rintro e w11 ⟨rfl, hb⟩; have n0_ := Ext.a (below_step (Ext.nB HB.out) hb); clear HB; have HB := n0_; clear n0_; (try clear hb); (try clear hb2); (try clear hk); (try clear hi))); try go_wp2_with (first | (go_at_call 7; (with_reducible refine (terrierlaw17_lives.calls k  true _ A4.out).mono ?_); rintro e w9 ⟨rfl, hb⟩; have n0_ := Ext.a (below_step (Ext.nB HB.out) hb); clear HB; have HB := n0_; clear n0_; (try clear hb); (try clear hb2); (try clear hk); (try clear hi)) | (go_at_call 8; (with_reducible refine (terrierlaw17_few.calls k _ _ l0 true _ ?side1 ?side2 A6.out).mono ?_); (case side1 => repeat (first | exact (Kd.C_below HR0.out HB.out) | exact HR0.out | (with_reducible refine Kd.C_alloc ?_ _) | (with_reducible refine Kd.C_drewN ?_ _) | (with_reducible refine Kd.C_drew ?_))); (case side2 => exact HC0.out); rintro e w10 ⟨rfl, hb⟩; have n0_ := Ext.a (below_step (Ext.nB HB.out) hb); clear HB; have HB := n0_; clear n0_; (try clear hb); (try clear hb2); (try clear hk); (try clear hi)) | (go_at_call 15; (with_reducible refine (batch_Right.calls k _ _ l0 t247 _ ?side1 ?side2 A8.out).mono ?_); (case side1 => repeat (first | exact (Kd.C_below HR0.out HB.out) | exact HR0.out | (with_reducible refine Kd.C_alloc ?_ _) | (with_reducible refine Kd.C_drewN ?_ _) | (with_reducible refine Kd.C_drew ?_))); (case side2 => exact HC0.out); rintro e w11 ⟨rfl, hb⟩; have n0_ := Ext.a (below_step (Ext.nB HB.out) hb); clear HB; have HB := n0_; clear n0_; (try clear hb); (try clear hb2); (try clear hk); (try clear hi))))
    go_meet
    case rel => exact ⟨_, (!t247), (by first | rfl | (simp; done) | (simp [*]; done)), H', ⟨by first | omega | exact Nat.le_refl _⟩, ⟨by repeat (first | (with_reducible first | exact HB.out | apply Ext.ba | apply Ext.bn | apply Ext.bd) | exact HB.out | exact .refl _ _)⟩⟩
   ·
    replace c7 := Bool.eq_false_iff.mpr c7
    subst c7
    have H1 : (terrierlaw17_BatchWhole.j0 k l0 a1 true) = some r := by rw [if_neg (show ¬ (false = true) by decide)] at H; exact H
    clear H
    have H := H1
    clear H1
    have H' := Aside0.mk H
    clear H
    go_wp2_with (first | (go_at_call 7; (with_reducible refine (terrierlaw17_lives.calls k  true _ A4.out).mono ?_); rintro e w12 ⟨rfl, hb⟩; have n0_ := Ext.a (below_step (Ext.nB HB.out) hb); clear HB; have HB := n0_; clear n0_; (try clear hb); (try clear hb2); (try clear hk); (try clear hi)) | (go_at_call 8; (with_reducible refine (terrierlaw17_few.calls k _ _ l0 false _ ?side1 ?side2 A6.out).mono ?_); (case side1 => repeat (first | exact (Kd.C_below HR0.out HB.out) | exact HR0.out | (with_reducible refine Kd.C_alloc ?_ _) | (with_reducible refine Kd.C_drewN ?_ _) | (with_reducible refine Kd.C_drew ?_))); (case side2 => exact HC0.out); rintro e w13 ⟨rfl, hb⟩; have n0_ := Ext.a (below_step (Ext.nB HB.out) hb); clear HB; have HB := n0_; clear n0_; (try clear hb); (try clear hb2); (try clear hk); (try clear hi)))
    repeat (go_quiet (first | (go_at_call 7; (with_reducible refine (terrierlaw17_lives.calls k  true _ A4.out).mono ?_); rintro e w12 ⟨rfl, hb⟩; have n0_ := Ext.a (below_step (Ext.nB HB.out) hb); clear HB; have HB := n0_; clear n0_; (try clear hb); (try clear hb2); (try clear hk); (try clear hi)) | (go_at_call 8; (with_reducible refine (terrierlaw17_few.calls k _ _ l0 false _ ?side1 ?side2 A6.out).mono ?_); (case side1 => repeat (first | exact (Kd.C_below HR0.out HB.out) | exact HR0.out | (with_reducible refine Kd.C_alloc ?_ _) | (with_reducible refine Kd.C_drewN ?_ _) | (with_reducible refine Kd.C_drew ?_))); (case side2 => exact HC0.out); rintro e w13 ⟨rfl, hb⟩; have n0_ := Ext.a (below_step (Ext.nB HB.out) hb); clear HB; have HB := n0_; clear n0_; (try clear hb); (try clear hb2); (try clear hk); (try clear hi))); try go_wp2_with (first | (go_at_call 7; (with_reducible refine (terrierlaw17_lives.calls k  true _ A4.out).mono ?_); rintro e w12 ⟨rfl, hb⟩; have n0_ := Ext.a (below_step (Ext.nB HB.out) hb); clear HB; have HB := n0_; clear n0_; (try clear hb); (try clear hb2); (try clear hk); (try clear hi)) | (go_at_call 8; (with_reducible refine (terrierlaw17_few.calls k _ _ l0 false _ ?side1 ?side2 A6.out).mono ?_); (case side1 => repeat (first | exact (Kd.C_below HR0.out HB.out) | exact HR0.out | (with_reducible refine Kd.C_alloc ?_ _) | (with_reducible refine Kd.C_drewN ?_ _) | (with_reducible refine Kd.C_drew ?_))); (case side2 => exact HC0.out); rintro e w13 ⟨rfl, hb⟩; have n0_ := Ext.a (below_step (Ext.nB HB.out) hb); clear HB; have HB := n0_; clear n0_; (try clear hb); (try clear hb2); (try clear hk); (try clear hi))))
    go_meet
    case rel => exact ⟨_, (true), (by first | rfl | (simp; done) | (simp [*]; done)), H', ⟨by first | omega | exact Nat.le_refl _⟩, ⟨by repeat (first | (with_reducible first | exact HB.out | apply Ext.ba | apply Ext.bn | apply Ext.bd) | exact HB.out | exact .refl _ _)⟩⟩
  ·
   replace c5 := Bool.eq_false_iff.mpr c5
   subst c5
   have H1 : (terrierlaw17_BatchWhole.j0 k l0 a1 true) = some r := by rw [if_neg (show ¬ (false = true) by decide)] at H; exact H
   clear H
   have H := H1
   clear H1
   have H' := Aside0.mk H
   clear H
   go_wp2_with (first | (go_at_call 7; (with_reducible refine (terrierlaw17_lives.calls k  false _ A4.out).mono ?_); rintro e w14 ⟨rfl, hb⟩; have n0_ := Ext.a (below_step (Ext.nB HB.out) hb); clear HB; have HB := n0_; clear n0_; (try clear hb); (try clear hb2); (try clear hk); (try clear hi)))
   repeat (go_quiet (first | (go_at_call 7; (with_reducible refine (terrierlaw17_lives.calls k  false _ A4.out).mono ?_); rintro e w14 ⟨rfl, hb⟩; have n0_ := Ext.a (below_step (Ext.nB HB.out) hb); clear HB; have HB := n0_; clear n0_; (try clear hb); (try clear hb2); (try clear hk); (try clear hi))); try go_wp2_with (first | (go_at_call 7; (with_reducible refine (terrierlaw17_lives.calls k  false _ A4.out).mono ?_); rintro e w14 ⟨rfl, hb⟩; have n0_ := Ext.a (below_step (Ext.nB HB.out) hb); clear HB; have HB := n0_; clear n0_; (try clear hb); (try clear hb2); (try clear hk); (try clear hi))))
   go_meet
   case rel => exact ⟨_, (true), (by first | rfl | (simp; done) | (simp [*]; done)), H', ⟨by first | omega | exact Nat.le_refl _⟩, ⟨by repeat (first | (with_reducible first | exact HB.out | apply Ext.ba | apply Ext.bn | apply Ext.bd) | exact HB.out | exact .refl _ _)⟩⟩
 case rest =>
  clear HC3
  try clear p2
  try clear c5
  try clear c7
  obtain ⟨kq, x20_2, rfl, HA, HJ2, HB⟩ := hcut
  cases kq with
  | zero => exact absurd HA.out (by simp [terrierlaw17_BatchWhole.j0])
  | succ kj2 =>
   have H := HA.out
   clear HA
   simp only [terrierlaw17_BatchWhole.j0] at H
   by_cases c15 : x20_2 = true
   ·
    subst c15
    have H1 : ((terrierlaw17_lives.f kj2).bind fun t248 => (some t248)) = some r := by rw [if_pos rfl] at H; exact H
    clear H
    have H := H1
    clear H1
    replace H := Option.bind_eq_some_iff.mp H
    obtain ⟨t248, A160, H⟩ := H
    replace H : (some t248) = some r := H
    have A16 := Aside0.mk A160
    clear A160
    obtain rfl := Option.some.inj H
    go_wp2_with (first | (go_at_call 7; (with_reducible refine (terrierlaw17_lives.calls kj2  t248 _ A16.out).mono ?_); rintro e w17 ⟨rfl, hb⟩; have n0_ := Ext.a (below_step (Ext.nB HB.out) hb); clear HB; have HB := n0_; clear n0_; (try clear hb); (try clear hb2); (try clear hk); (try clear hi)))
    repeat (go_quiet (first | (go_at_call 7; (with_reducible refine (terrierlaw17_lives.calls kj2  t248 _ A16.out).mono ?_); rintro e w17 ⟨rfl, hb⟩; have n0_ := Ext.a (below_step (Ext.nB HB.out) hb); clear HB; have HB := n0_; clear n0_; (try clear hb); (try clear hb2); (try clear hk); (try clear hi))); try go_wp2_with (first | (go_at_call 7; (with_reducible refine (terrierlaw17_lives.calls kj2  t248 _ A16.out).mono ?_); rintro e w17 ⟨rfl, hb⟩; have n0_ := Ext.a (below_step (Ext.nB HB.out) hb); clear HB; have HB := n0_; clear n0_; (try clear hb); (try clear hb2); (try clear hk); (try clear hi))))
    go_ret
    exact ⟨by first | rfl | (simp [errW_none, errW_some] <;> rfl) | (simp [*, errW_none, errW_some] <;> rfl), by repeat (first | (with_reducible first | exact HB.out | apply Ext.ba | apply Ext.bn | apply Ext.bd) | exact HB.out | exact .refl _ _)⟩
   ·
    replace c15 := Bool.eq_false_iff.mpr c15
    subst c15
    have H1 : ((batch_Split.f kj2 l0 a1).bind fun t249 => (terrierlaw17_BatchWhole.l0 kj2 l0 a1 ([] : List (S38)) 0 t249 (t249.length : Int) 0)) = some r := by rw [if_neg (show ¬ (false = true) by decide)] at H; exact H
    clear H
    have H := H1
    clear H1
    replace H := Option.bind_eq_some_iff.mp H
    obtain ⟨t249, A180, H⟩ := H
    replace H : (terrierlaw17_BatchWhole.l0 kj2 l0 a1 ([] : List (S38)) 0 t249 (t249.length : Int) 0) = some r := H
    have A18 := Aside0.mk A180
    clear A180
    have H' := Aside0.mk H
    clear H
    go_wp2_with (first | (go_at_call 17; (with_reducible refine (batch_Split.calls kj2 (fun k_ => k_ < w.heap.size) _ _ l0 a1 t249 _ ?side1 A18.out).mono ?_); (case side1 => exact Kd.V_mk HC0.out (Kd.F_below (Kd.C_F k38_heap HR0.out) (Ext.nB HB.out))); rintro e w19 ⟨v250, rfl, ho0, hb⟩; replace ho0 := rn5_ (A := fun k_ => k_ < w.heap.size) ho0; have n0_ := Ext.a (Kd.N_lower (Kd.N_mono (ok' := fun k_ => True) ho0 (fun k_ hk_ => trivial)) (below_size (Ext.nB HB.out))); have n1_ := Ext.a (below_step (Ext.nB HB.out) hb); clear HB; have HO251 := n0_; have HB := n1_; clear n0_ n1_; (try clear hb); (try clear hb2); (try clear hk); (try clear hi); (try clear ho0); obtain ⟨Ao20, co20, eo20⟩ := Kd.N_slice HO251.out; subst eo20))
    repeat (go_quiet (first | (go_at_call 17; (with_reducible refine (batch_Split.calls kj2 (fun k_ => k_ < w.heap.size) _ _ l0 a1 t249 _ ?side1 A18.out).mono ?_); (case side1 => exact Kd.V_mk HC0.out (Kd.F_below (Kd.C_F k38_heap HR0.out) (Ext.nB HB.out))); rintro e w19 ⟨v250, rfl, ho0, hb⟩; replace ho0 := rn5_ (A := fun k_ => k_ < w.heap.size) ho0; have n0_ := Ext.a (Kd.N_lower (Kd.N_mono (ok' := fun k_ => True) ho0 (fun k_ hk_ => trivial)) (below_size (Ext.nB HB.out))); have n1_ := Ext.a (below_step (Ext.nB HB.out) hb); clear HB; have HO251 := n0_; have HB := n1_; clear n0_ n1_; (try clear hb); (try clear hb2); (try clear hk); (try clear hi); (try clear ho0); obtain ⟨Ao20, co20, eo20⟩ := Kd.N_slice HO251.out; subst eo20)); try go_wp2_with (first | (go_at_call 17; (with_reducible refine (batch_Split.calls kj2 (fun k_ => k_ < w.heap.size) _ _ l0 a1 t249 _ ?side1 A18.out).mono ?_); (case side1 => exact Kd.V_mk HC0.out (Kd.F_below (Kd.C_F k38_heap HR0.out) (Ext.nB HB.out))); rintro e w19 ⟨v250, rfl, ho0, hb⟩; replace ho0 := rn5_ (A := fun k_ => k_ < w.heap.size) ho0; have n0_ := Ext.a (Kd.N_lower (Kd.N_mono (ok' := fun k_ => True) ho0 (fun k_ hk_ => trivial)) (below_size (Ext.nB HB.out))); have n1_ := Ext.a (below_step (Ext.nB HB.out) hb); clear HB; have HO251 := n0_; have HB := n1_; clear n0_ n1_; (try clear hb); (try clear hb2); (try clear hk); (try clear hi); (try clear ho0); obtain ⟨Ao20, co20, eo20⟩ := Kd.N_slice HO251.out; subst eo20)))
    go_loopg [5, 6, 26] kj2 (fun kq v5 v6 v26 w' => ∃ (x5_2 : List (S38)) (x6_2 : Int) (x26_2 : Int), v6 = .int .i64 x6_2 ∧ v26 = .int .i64 x26_2 ∧ Aside0 (terrierlaw17_BatchWhole.l0 kq l0 a1 x5_2 x6_2 t249 (t249.length : Int) x26_2 = some r) ∧ Aside0 (kq ≤ kj2) ∧ Aside0 (Kd.N k38 38 w' w.heap.size (fun k_ => some k_ ≠ ((.slice Ao20 t249.length co20) : Value).ownBlock) v5 x5_2) ∧ Aside0 (Kd.N (Kd.slice 38 k38) 22 w' w.heap.size (fun k_ => some k_ ≠ (v5 : Value).ownBlock) (.slice Ao20 t249.length co20) t249) ∧ Aside0 (Below w.heap.size w w'))
    case atStart => exact ⟨(([] : List (S38))), (0), (0), (by first | rfl | (simp; done) | (simp [*]; done)), (by first | rfl | (simp; done) | (simp [*]; done)), H', ⟨Nat.le_refl _⟩, ⟨by first | exact Kd.S_nil _ _ _ _ _ | exact Kd.N_nil _ _ _ _ _ | exact Kd.V_nil _ _ _ _ _ | exact Kd.Q_nil _ _ _ _ _ | exact Kd.R_nil _ _ _ _ _⟩, ⟨by (with_reducible repeat (first | apply Kd.N_alloc | apply Kd.N_drewN | apply Kd.N_drew)); exact Kd.N_mono HO251.out (fun _ hk => (by simp [Value.ownBlock]))⟩, ⟨by repeat (first | (with_reducible first | exact HB.out | apply Ext.ba | apply Ext.bn | apply Ext.bd) | exact HB.out | exact .refl _ _)⟩⟩
    case round =>
     clear H'
     try clear c1
     try clear p2
     try clear c5
     try clear c7
     try clear c15
     try clear p2
     obtain ⟨x5_2, x6_2, x26_2, rfl, rfl, HA, HK2, HO_5, HO_24, HB⟩ := hrel
     cases gk with
     | zero => exact absurd HA.out (by simp [terrierlaw17_BatchWhole.l0])
     | succ k2 =>
      have H := HA.out
      clear HA
      simp only [terrierlaw17_BatchWhole.l0] at H
      by_cases c21 : x26_2 < (t249.length : Int)
      ·
       rw [if_pos c21] at H
       have c21b0 : decide (x26_2 < (t249.length : Int)) = true := decide_eq_true c21
       clear c21
       by_cases c22 : 0 ≤ x26_2
       ·
        rw [if_pos c22] at H
        have c22b0 : decide (0 ≤ x26_2) = true := decide_eq_true c22
        clear c22
        by_cases c23 : x26_2 < (t249.length : Int)
        ·
         rw [if_pos c23] at H
         have c23b0 : decide (x26_2 < (t249.length : Int)) = true := decide_eq_true c23
         clear c23
         by_cases c24 : ((rd_L6 t249 x26_2).length : Int) = 0
         ·
          rw [if_pos c24] at H
          have c24b0 : (((rd_L6 t249 x26_2).length : Int) == 0) = true := beq_iff_eq.mpr c24
          have c24b1 : (((rd_L6 t249 x26_2).length : Int) != 0) = false := bne_eq_false_iff_eq.mpr c24
          clear c24
          obtain rfl := Option.some.inj H
          have p252 : 0 ≤ (x26_2 : Int) := of_decide_eq_true (by first | (with_reducible assumption) | assumption)
          have q252 : x26_2 < (t249.length : Int) := of_decide_eq_true (by first | (with_reducible assumption) | assumption)
          obtain ⟨ad252, A252_0, c252_0, e252, hx252_0, hl252_0, hi252_0⟩ := at_L6 (Kd.N_reads' HO_24.out).2.2 x26_2 p252 q252
          cases e252
          obtain ⟨ce252, hce252, hMe252, hcc252⟩ := Kd.N_get HO_24.out [] x26_2 p252 (by first | exact q252 | exact of_decide_eq_true (by first | (with_reducible assumption) | assumption) | (have e_ := (Kd.N_reads' HO_24.out).1; omega))
          obtain ⟨ua252_0, uc252_0, rfl, ul252_0, ge252_0⟩ := Kd.FK_slice_open hMe252
          have hv252_0 := hcc252 0 _ rfl
          rw [Nat.add_zero, show ((Kd.slice 38 k38)).sz = 1 from rfl, Nat.mul_one] at hv252_0
          replace hv252_0 := Option.some.inj (hv252_0.symm.trans hx252_0)
          injection hv252_0 with hva_ hvn_ hvc_
          rw [hva_] at ge252_0
          rw [hvc_] at ul252_0
          have HL252_0 := Ext.a (show Kd.V k38 38 _ w.heap.size _ _ (rd_L6 t249 x26_2) from Kd.V_mk ul252_0 ge252_0)
          clear hva_ hvn_ hvc_ ge252_0 ul252_0
          clear hcc252 hce252
          have HR252_0 := Aside0.mk hi252_0
          have HC252_0 := Aside0.mk hl252_0
          clear hi252_0 hl252_0
          replace p252 := eq_true p252
          replace q252 := eq_true q252
          go_wp2
          repeat (go_quiet (fail); try go_wp2)
          go_ret
          exact ⟨by first | rfl | (simp [errW_none, errW_some] <;> rfl) | (simp [*, errW_none, errW_some] <;> rfl), by repeat (first | (with_reducible first | exact HB.out | apply Ext.ba | apply Ext.bn | apply Ext.bd) | exact HB.out | exact .refl _ _)⟩
         ·
          rw [if_neg c24] at H
          have c24b0 : (((rd_L6 t249 x26_2).length : Int) == 0) = false := beq_eq_false_iff_ne.mpr c24
          have c24b1 : (((rd_L6 t249 x26_2).length : Int) != 0) = true := bne_iff_ne.mpr c24
          have c24b2 : ¬ ((rd_L6 t249 x26_2) = []) := fun h_ => c24 (by rw [h_]; rfl)
          by_cases c25 : x26_2 > 0
          ·
           rw [if_pos c25] at H
           have c25b0 : decide (0 < x26_2) = true := decide_eq_true c25
           clear c25
           by_cases c26 : 0 < ((rd_L6 t249 x26_2).length : Int)
           ·
            rw [if_pos c26] at H
            have c26b0 : decide (0 < ((rd_L6 t249 x26_2).length : Int)) = true := decide_eq_true c26
            have c26b1 : decide (0 < (rd_L6 t249 x26_2).length) = true := decide_eq_true (by omega)
            clear c26
            by_cases c27 : ((rd_T38 (rd_L6 t249 x26_2) 0).f1.f3) = x6_2
            ·
             rw [if_pos c27] at H
             have c27b0 : (((rd_T38 (rd_L6 t249 x26_2) 0).f1.f3) == x6_2) = true := beq_iff_eq.mpr c27
             have c27b1 : (((rd_T38 (rd_L6 t249 x26_2) 0).f1.f3) != x6_2) = false := bne_eq_false_iff_eq.mpr c27
             clear c27
             obtain rfl := Option.some.inj H
             have p252 : 0 ≤ (x26_2 : Int) := of_decide_eq_true (by first | (with_reducible assumption) | assumption)
             have q252 : x26_2 < (t249.length : Int) := of_decide_eq_true (by first | (with_reducible assumption) | assumption)
             obtain ⟨ad252, A252_0, c252_0, e252, hx252_0, hl252_0, hi252_0⟩ := at_L6 (Kd.N_reads' HO_24.out).2.2 x26_2 p252 q252
             cases e252
             obtain ⟨ce252, hce252, hMe252, hcc252⟩ := Kd.N_get HO_24.out [] x26_2 p252 (by first | exact q252 | exact of_decide_eq_true (by first | (with_reducible assumption) | assumption) | (have e_ := (Kd.N_reads' HO_24.out).1; omega))
             obtain ⟨ua252_0, uc252_0, rfl, ul252_0, ge252_0⟩ := Kd.FK_slice_open hMe252
             have hv252_0 := hcc252 0 _ rfl
             rw [Nat.add_zero, show ((Kd.slice 38 k38)).sz = 1 from rfl, Nat.mul_one] at hv252_0
             replace hv252_0 := Option.some.inj (hv252_0.symm.trans hx252_0)
             injection hv252_0 with hva_ hvn_ hvc_
             rw [hva_] at ge252_0
             rw [hvc_] at ul252_0
             have HL252_0 := Ext.a (show Kd.V k38 38 _ w.heap.size _ _ (rd_L6 t249 x26_2) from Kd.V_mk ul252_0 ge252_0)
             clear hva_ hvn_ hvc_ ge252_0 ul252_0
             clear hcc252 hce252
             have HR252_0 := Aside0.mk hi252_0
             have HC252_0 := Aside0.mk hl252_0
             clear hi252_0 hl252_0
             replace p252 := eq_true p252
             replace q252 := eq_true q252
             have p253 : 0 ≤ (0 : Int) := (by omega)
             have q253 : 0 < ((rd_L6 t249 x26_2).length : Int) := of_decide_eq_true (by first | (with_reducible assumption) | assumption)
             obtain ⟨ad253, A253_1, c253_1, A253_2, c253_2, A253_8, c253_8, A253_9, c253_9, e253, hx253_0, hx253_1, hx253_2, hx253_3, hx253_4, hx253_5, hx253_6, hx253_7, hx253_8, hx253_9, hx253_10, hx253_11, hx253_12, hx253_13, hl253_1, hi253_1, hl253_2, hi253_2, hl253_8, hi253_8, hl253_9, hi253_9⟩ := at_T38 (by repeat (first | (with_reducible exact HR252_0.out) | (with_reducible refine Kd.C_alloc ?_ _) | (with_reducible refine Kd.C_drewN ?_ _) | (with_reducible refine Kd.C_drew ?_) | exact HR252_0.out)) 0 p253 q253
             cases e253
             obtain ⟨ce253, hce253, hMe253, hcc253⟩ := Kd.V_get HL252_0.out z38 0 p253 (by first | exact q253 | exact of_decide_eq_true (by first | (with_reducible assumption) | assumption) | (have e_ := (Kd.V_reads' HL252_0.out).1; omega))
             obtain ⟨ua253_1, uc253_1, ua253_2, uc253_2, ua253_8, uc253_8, ua253_9, uc253_9, rfl, ul253_1, ge253_1, ul253_2, ge253_2, ul253_8, ge253_8, ul253_9, ge253_9⟩ := k38_openF hMe253
             have hv253_1 := hcc253 1 _ rfl
             rw [add_field _ _ 1 (by omega)] at hv253_1
             replace hv253_1 := Option.some.inj (hv253_1.symm.trans hx253_1)
             injection hv253_1 with hva_ hvn_ hvc_
             rw [hva_] at ge253_1
             rw [hvc_] at ul253_1
             have HL253_1 := Ext.a (show Kd.V (Kd.int .u8) 5 _ w.heap.size _ _ ((rd_T38 (rd_L6 t249 x26_2) 0).f1.f0) from Kd.V_mk ul253_1 ge253_1)
             clear hva_ hvn_ hvc_ ge253_1 ul253_1
             have hv253_2 := hcc253 2 _ rfl
             rw [add_field _ _ 2 (by omega)] at hv253_2
             replace hv253_2 := Option.some.inj (hv253_2.symm.trans hx253_2)
             injection hv253_2 with hva_ hvn_ hvc_
             rw [hva_] at ge253_2
             rw [hvc_] at ul253_2
             have HL253_2 := Ext.a (show Kd.V (Kd.int .u8) 5 _ w.heap.size _ _ ((rd_T38 (rd_L6 t249 x26_2) 0).f1.f1) from Kd.V_mk ul253_2 ge253_2)
             clear hva_ hvn_ hvc_ ge253_2 ul253_2
             have hv253_8 := hcc253 8 _ rfl
             rw [add_field _ _ 8 (by omega)] at hv253_8
             replace hv253_8 := Option.some.inj (hv253_8.symm.trans hx253_8)
             injection hv253_8 with hva_ hvn_ hvc_
             rw [hva_] at ge253_8
             rw [hvc_] at ul253_8
             have HL253_8 := Ext.a (show Kd.V (Kd.int .u8) 5 _ w.heap.size _ _ ((rd_T38 (rd_L6 t249 x26_2) 0).f3.f0) from Kd.V_mk ul253_8 ge253_8)
             clear hva_ hvn_ hvc_ ge253_8 ul253_8
             have hv253_9 := hcc253 9 _ rfl
             rw [add_field _ _ 9 (by omega)] at hv253_9
             replace hv253_9 := Option.some.inj (hv253_9.symm.trans hx253_9)
             injection hv253_9 with hva_ hvn_ hvc_
             rw [hva_] at ge253_9
             rw [hvc_] at ul253_9
             have HL253_9 := Ext.a (show Kd.V (Kd.int .u8) 5 _ w.heap.size _ _ ((rd_T38 (rd_L6 t249 x26_2) 0).f3.f1) from Kd.V_mk ul253_9 ge253_9)
             clear hva_ hvn_ hvc_ ge253_9 ul253_9
             clear hcc253 hce253
             have qi253 : (0 < (rd_L6 t249 x26_2).length) = True := eq_true (by omega)
             (try rw [show ((0 : Int)).toNat = 0 from rfl] at hx253_0)
             (try rw [show 0 * 14 = 0 from rfl] at hx253_0)
             (try rw [Addr.add_zero'] at hx253_0)
             (try rw [show ((0 : Int)).toNat = 0 from rfl] at hx253_1)
             (try rw [show 0 * 14 = 0 from rfl] at hx253_1)
             (try rw [Addr.add_zero'] at hx253_1)
             (try rw [show ((0 : Int)).toNat = 0 from rfl] at hx253_2)
             (try rw [show 0 * 14 = 0 from rfl] at hx253_2)
             (try rw [Addr.add_zero'] at hx253_2)
             (try rw [show ((0 : Int)).toNat = 0 from rfl] at hx253_3)
             (try rw [show 0 * 14 = 0 from rfl] at hx253_3)
             (try rw [Addr.add_zero'] at hx253_3)
             (try rw [show ((0 : Int)).toNat = 0 from rfl] at hx253_4)
             (try rw [show 0 * 14 = 0 from rfl] at hx253_4)
             (try rw [Addr.add_zero'] at hx253_4)
             (try rw [show ((0 : Int)).toNat = 0 from rfl] at hx253_5)
             (try rw [show 0 * 14 = 0 from rfl] at hx253_5)
             (try rw [Addr.add_zero'] at hx253_5)
             (try rw [show ((0 : Int)).toNat = 0 from rfl] at hx253_6)
             (try rw [show 0 * 14 = 0 from rfl] at hx253_6)
             (try rw [Addr.add_zero'] at hx253_6)
             (try rw [show ((0 : Int)).toNat = 0 from rfl] at hx253_7)
             (try rw [show 0 * 14 = 0 from rfl] at hx253_7)
             (try rw [Addr.add_zero'] at hx253_7)
             (try rw [show ((0 : Int)).toNat = 0 from rfl] at hx253_8)
             (try rw [show 0 * 14 = 0 from rfl] at hx253_8)
             (try rw [Addr.add_zero'] at hx253_8)
             (try rw [show ((0 : Int)).toNat = 0 from rfl] at hx253_9)
             (try rw [show 0 * 14 = 0 from rfl] at hx253_9)
             (try rw [Addr.add_zero'] at hx253_9)
             (try rw [show ((0 : Int)).toNat = 0 from rfl] at hx253_10)
             (try rw [show 0 * 14 = 0 from rfl] at hx253_10)
             (try rw [Addr.add_zero'] at hx253_10)
             (try rw [show ((0 : Int)).toNat = 0 from rfl] at hx253_11)
             (try rw [show 0 * 14 = 0 from rfl] at hx253_11)
             (try rw [Addr.add_zero'] at hx253_11)
             (try rw [show ((0 : Int)).toNat = 0 from rfl] at hx253_12)
             (try rw [show 0 * 14 = 0 from rfl] at hx253_12)
             (try rw [Addr.add_zero'] at hx253_12)
             (try rw [show ((0 : Int)).toNat = 0 from rfl] at hx253_13)
             (try rw [show 0 * 14 = 0 from rfl] at hx253_13)
             (try rw [Addr.add_zero'] at hx253_13)
             have HR253_1 := Aside0.mk hi253_1
             have HC253_1 := Aside0.mk hl253_1
             clear hi253_1 hl253_1
             have HR253_2 := Aside0.mk hi253_2
             have HC253_2 := Aside0.mk hl253_2
             clear hi253_2 hl253_2
             have HR253_8 := Aside0.mk hi253_8
             have HC253_8 := Aside0.mk hl253_8
             clear hi253_8 hl253_8
             have HR253_9 := Aside0.mk hi253_9
             have HC253_9 := Aside0.mk hl253_9
             clear hi253_9 hl253_9
             replace p253 := eq_true p253
             replace q253 := eq_true q253
             go_wp2
             repeat (go_quiet (fail); try go_wp2)
             go_ret
             exact ⟨by first | rfl | (simp [errW_none, errW_some] <;> rfl) | (simp [*, errW_none, errW_some] <;> rfl), by repeat (first | (with_reducible first | exact HB.out | apply Ext.ba | apply Ext.bn | apply Ext.bd) | exact HB.out | exact .refl _ _)⟩
            ·
             rw [if_neg c27] at H
             have c27b0 : (((rd_T38 (rd_L6 t249 x26_2) 0).f1.f3) == x6_2) = false := beq_eq_false_iff_ne.mpr c27
             have c27b1 : (((rd_T38 (rd_L6 t249 x26_2) 0).f1.f3) != x6_2) = true := bne_iff_ne.mpr c27
             obtain ⟨ji28, hji28⟩ : ∃ j_ : Int, (mx a1 1) = j_ := ⟨_, rfl⟩
             replace H : (if ((rd_L6 t249 x26_2).length : Int) > (ji28) then (if 0 ≤ (wrap64 (((rd_L6 t249 x26_2).length : Int) - 1)) then (if (wrap64 (((rd_L6 t249 x26_2).length : Int) - 1)) < ((rd_L6 t249 x26_2).length : Int) then (if ((rd_T38 (rd_L6 t249 x26_2) 0).f1.f3) = ((rd_T38 (rd_L6 t249 x26_2) (wrap64 (((rd_L6 t249 x26_2).length : Int) - 1))).f1.f3) then (if x5_2.length + (rd_L6 t249 x26_2).length < 799644820200 then (terrierlaw17_BatchWhole.l0 k2 l0 a1 (x5_2 ++ (rd_L6 t249 x26_2)) ((rd_T38 (rd_L6 t249 x26_2) (wrap64 (((rd_L6 t249 x26_2).length : Int) - 1))).f1.f3) t249 (t249.length : Int) (wrap64 (x26_2 + 1))) else (none)) else (some false)) else (none)) else (none)) else (if 0 ≤ (wrap64 (((rd_L6 t249 x26_2).length : Int) - 1)) then (if (wrap64 (((rd_L6 t249 x26_2).length : Int) - 1)) < ((rd_L6 t249 x26_2).length : Int) then (if x5_2.length + (rd_L6 t249 x26_2).length < 799644820200 then (terrierlaw17_BatchWhole.l0 k2 l0 a1 (x5_2 ++ (rd_L6 t249 x26_2)) ((rd_T38 (rd_L6 t249 x26_2) (wrap64 (((rd_L6 t249 x26_2).length : Int) - 1))).f1.f3) t249 (t249.length : Int) (wrap64 (x26_2 + 1))) else (none)) else (none)) else (none))) = some r := by first | (rw [hji28] at H; exact H) | (simp only [hji28] at H ⊢; exact H)
             have hji28_ : (if a1 < 1 then 1 else a1) = ji28 := hji28
             by_cases c29 : ((rd_L6 t249 x26_2).length : Int) > (ji28)
             ·
              rw [if_pos c29] at H
              have c29b0 : decide ((ji28) < ((rd_L6 t249 x26_2).length : Int)) = true := decide_eq_true c29
              clear c29
              obtain ⟨ji30, hji30⟩ : ∃ j_ : Int, (wrap64 (((rd_L6 t249 x26_2).length : Int) - 1)) = j_ := ⟨_, rfl⟩
              replace H : (if 0 ≤ (ji30) then (if (ji30) < ((rd_L6 t249 x26_2).length : Int) then (if ((rd_T38 (rd_L6 t249 x26_2) 0).f1.f3) = ((rd_T38 (rd_L6 t249 x26_2) (ji30)).f1.f3) then (if x5_2.length + (rd_L6 t249 x26_2).length < 799644820200 then (terrierlaw17_BatchWhole.l0 k2 l0 a1 (x5_2 ++ (rd_L6 t249 x26_2)) ((rd_T38 (rd_L6 t249 x26_2) (ji30)).f1.f3) t249 (t249.length : Int) (wrap64 (x26_2 + 1))) else (none)) else (some false)) else (none)) else (none)) = some r := by first | (rw [hji30] at H; exact H) | (simp only [hji30] at H ⊢; exact H)
              have hji30w : (IntKind.i64.wrap (((rd_L6 t249 x26_2).length : Int) - 1)) = ji30 := (i64_w _).trans hji30
              by_cases c31 : 0 ≤ (ji30)
              ·
               rw [if_pos c31] at H
               have c31b0 : decide (0 ≤ (ji30)) = true := decide_eq_true c31
               clear c31
               by_cases c32 : (ji30) < ((rd_L6 t249 x26_2).length : Int)
               ·
                rw [if_pos c32] at H
                have c32b0 : decide ((ji30) < ((rd_L6 t249 x26_2).length : Int)) = true := decide_eq_true c32
                clear c32
                by_cases c33 : ((rd_T38 (rd_L6 t249 x26_2) 0).f1.f3) = ((rd_T38 (rd_L6 t249 x26_2) (ji30)).f1.f3)
                ·
                 rw [if_pos c33] at H
                 have c33b0 : (((rd_T38 (rd_L6 t249 x26_2) 0).f1.f3) == ((rd_T38 (rd_L6 t249 x26_2) (ji30)).f1.f3)) = true := beq_iff_eq.mpr c33
                 have c33b1 : (((rd_T38 (rd_L6 t249 x26_2) 0).f1.f3) != ((rd_T38 (rd_L6 t249 x26_2) (ji30)).f1.f3)) = false := bne_eq_false_iff_eq.mpr c33
                 clear c33
                 by_cases c34 : x5_2.length + (rd_L6 t249 x26_2).length < 799644820200
                 ·
                  rw [if_pos c34] at H
                  have LMc34 := Aside0.mk c34
                  clear c34
                  obtain ⟨y257, hy257⟩ : ∃ y_ : List (S38), y_ = (x5_2 ++ (rd_L6 t249 x26_2)) := ⟨_, rfl⟩
                  replace H : (terrierlaw17_BatchWhole.l0 k2 l0 a1 y257 ((rd_T38 (rd_L6 t249 x26_2) (ji30)).f1.f3) t249 (t249.length : Int) (wrap64 (x26_2 + 1))) = some r := by first | (rw [hy257]; with_reducible exact H) | (have H2_ := (Option.bind_some _ _).symm.trans H; rw [hy257]; with_reducible exact H2_) | (have H2_ := (Option.bind_some _ _).symm.trans H; with_reducible exact H2_) | with_reducible exact H | (rw [hy257]; exact H) | exact H
                  have Ny257 := Aside0.mk hy257
                  clear hy257
                  have H' := Aside0.mk H
                  clear H
                  have p252 : 0 ≤ (x26_2 : Int) := of_decide_eq_true (by first | (with_reducible assumption) | assumption)
                  have q252 : x26_2 < (t249.length : Int) := of_decide_eq_true (by first | (with_reducible assumption) | assumption)
                  obtain ⟨ad252, A252_0, c252_0, e252, hx252_0, hl252_0, hi252_0⟩ := at_L6 (Kd.N_reads' HO_24.out).2.2 x26_2 p252 q252
                  cases e252
                  obtain ⟨ce252, hce252, hMe252, hcc252⟩ := Kd.N_get HO_24.out [] x26_2 p252 (by first | exact q252 | exact of_decide_eq_true (by first | (with_reducible assumption) | assumption) | (have e_ := (Kd.N_reads' HO_24.out).1; omega))
                  obtain ⟨ua252_0, uc252_0, rfl, ul252_0, ge252_0⟩ := Kd.FK_slice_open hMe252
                  have hv252_0 := hcc252 0 _ rfl
                  rw [Nat.add_zero, show ((Kd.slice 38 k38)).sz = 1 from rfl, Nat.mul_one] at hv252_0
                  replace hv252_0 := Option.some.inj (hv252_0.symm.trans hx252_0)
                  injection hv252_0 with hva_ hvn_ hvc_
                  rw [hva_] at ge252_0
                  rw [hvc_] at ul252_0
                  have HL252_0 := Ext.a (show Kd.V k38 38 _ w.heap.size _ _ (rd_L6 t249 x26_2) from Kd.V_mk ul252_0 ge252_0)
                  clear hva_ hvn_ hvc_ ge252_0 ul252_0
                  clear hcc252 hce252
                  have HR252_0 := Aside0.mk hi252_0
                  have HC252_0 := Aside0.mk hl252_0
                  clear hi252_0 hl252_0
                  replace p252 := eq_true p252
                  replace q252 := eq_true q252
                  have p253 : 0 ≤ (0 : Int) := (by omega)
                  have q253 : 0 < ((rd_L6 t249 x26_2).length : Int) := of_decide_eq_true (by first | (with_reducible assumption) | assumption)
                  obtain ⟨ad253, A253_1, c253_1, A253_2, c253_2, A253_8, c253_8, A253_9, c253_9, e253, hx253_0, hx253_1, hx253_2, hx253_3, hx253_4, hx253_5, hx253_6, hx253_7, hx253_8, hx253_9, hx253_10, hx253_11, hx253_12, hx253_13, hl253_1, hi253_1, hl253_2, hi253_2, hl253_8, hi253_8, hl253_9, hi253_9⟩ := at_T38 (by repeat (first | (with_reducible exact HR252_0.out) | (with_reducible refine Kd.C_alloc ?_ _) | (with_reducible refine Kd.C_drewN ?_ _) | (with_reducible refine Kd.C_drew ?_) | exact HR252_0.out)) 0 p253 q253
                  cases e253
                  obtain ⟨ce253, hce253, hMe253, hcc253⟩ := Kd.V_get HL252_0.out z38 0 p253 (by first | exact q253 | exact of_decide_eq_true (by first | (with_reducible assumption) | assumption) | (have e_ := (Kd.V_reads' HL252_0.out).1; omega))
                  obtain ⟨ua253_1, uc253_1, ua253_2, uc253_2, ua253_8, uc253_8, ua253_9, uc253_9, rfl, ul253_1, ge253_1, ul253_2, ge253_2, ul253_8, ge253_8, ul253_9, ge253_9⟩ := k38_openF hMe253
                  have hv253_1 := hcc253 1 _ rfl
                  rw [add_field _ _ 1 (by omega)] at hv253_1
                  replace hv253_1 := Option.some.inj (hv253_1.symm.trans hx253_1)
                  injection hv253_1 with hva_ hvn_ hvc_
                  rw [hva_] at ge253_1
                  rw [hvc_] at ul253_1
                  have HL253_1 := Ext.a (show Kd.V (Kd.int .u8) 5 _ w.heap.size _ _ ((rd_T38 (rd_L6 t249 x26_2) 0).f1.f0) from Kd.V_mk ul253_1 ge253_1)
                  clear hva_ hvn_ hvc_ ge253_1 ul253_1
                  have hv253_2 := hcc253 2 _ rfl
                  rw [add_field _ _ 2 (by omega)] at hv253_2
                  replace hv253_2 := Option.some.inj (hv253_2.symm.trans hx253_2)
                  injection hv253_2 with hva_ hvn_ hvc_
                  rw [hva_] at ge253_2
                  rw [hvc_] at ul253_2
                  have HL253_2 := Ext.a (show Kd.V (Kd.int .u8) 5 _ w.heap.size _ _ ((rd_T38 (rd_L6 t249 x26_2) 0).f1.f1) from Kd.V_mk ul253_2 ge253_2)
                  clear hva_ hvn_ hvc_ ge253_2 ul253_2
                  have hv253_8 := hcc253 8 _ rfl
                  rw [add_field _ _ 8 (by omega)] at hv253_8
                  replace hv253_8 := Option.some.inj (hv253_8.symm.trans hx253_8)
                  injection hv253_8 with hva_ hvn_ hvc_
                  rw [hva_] at ge253_8
                  rw [hvc_] at ul253_8
                  have HL253_8 := Ext.a (show Kd.V (Kd.int .u8) 5 _ w.heap.size _ _ ((rd_T38 (rd_L6 t249 x26_2) 0).f3.f0) from Kd.V_mk ul253_8 ge253_8)
                  clear hva_ hvn_ hvc_ ge253_8 ul253_8
                  have hv253_9 := hcc253 9 _ rfl
                  rw [add_field _ _ 9 (by omega)] at hv253_9
                  replace hv253_9 := Option.some.inj (hv253_9.symm.trans hx253_9)
                  injection hv253_9 with hva_ hvn_ hvc_
                  rw [hva_] at ge253_9
                  rw [hvc_] at ul253_9
                  have HL253_9 := Ext.a (show Kd.V (Kd.int .u8) 5 _ w.heap.size _ _ ((rd_T38 (rd_L6 t249 x26_2) 0).f3.f1) from Kd.V_mk ul253_9 ge253_9)
                  clear hva_ hvn_ hvc_ ge253_9 ul253_9
                  clear hcc253 hce253
                  have qi253 : (0 < (rd_L6 t249 x26_2).length) = True := eq_true (by omega)
                  (try rw [show ((0 : Int)).toNat = 0 from rfl] at hx253_0)
                  (try rw [show 0 * 14 = 0 from rfl] at hx253_0)
                  (try rw [Addr.add_zero'] at hx253_0)
                  (try rw [show ((0 : Int)).toNat = 0 from rfl] at hx253_1)
                  (try rw [show 0 * 14 = 0 from rfl] at hx253_1)
                  (try rw [Addr.add_zero'] at hx253_1)
                  (try rw [show ((0 : Int)).toNat = 0 from rfl] at hx253_2)
                  (try rw [show 0 * 14 = 0 from rfl] at hx253_2)
                  (try rw [Addr.add_zero'] at hx253_2)
                  (try rw [show ((0 : Int)).toNat = 0 from rfl] at hx253_3)
                  (try rw [show 0 * 14 = 0 from rfl] at hx253_3)
                  (try rw [Addr.add_zero'] at hx253_3)
                  (try rw [show ((0 : Int)).toNat = 0 from rfl] at hx253_4)
                  (try rw [show 0 * 14 = 0 from rfl] at hx253_4)
                  (try rw [Addr.add_zero'] at hx253_4)
                  (try rw [show ((0 : Int)).toNat = 0 from rfl] at hx253_5)
                  (try rw [show 0 * 14 = 0 from rfl] at hx253_5)
                  (try rw [Addr.add_zero'] at hx253_5)
                  (try rw [show ((0 : Int)).toNat = 0 from rfl] at hx253_6)
                  (try rw [show 0 * 14 = 0 from rfl] at hx253_6)
                  (try rw [Addr.add_zero'] at hx253_6)
                  (try rw [show ((0 : Int)).toNat = 0 from rfl] at hx253_7)
                  (try rw [show 0 * 14 = 0 from rfl] at hx253_7)
                  (try rw [Addr.add_zero'] at hx253_7)
                  (try rw [show ((0 : Int)).toNat = 0 from rfl] at hx253_8)
                  (try rw [show 0 * 14 = 0 from rfl] at hx253_8)
                  (try rw [Addr.add_zero'] at hx253_8)
                  (try rw [show ((0 : Int)).toNat = 0 from rfl] at hx253_9)
                  (try rw [show 0 * 14 = 0 from rfl] at hx253_9)
                  (try rw [Addr.add_zero'] at hx253_9)
                  (try rw [show ((0 : Int)).toNat = 0 from rfl] at hx253_10)
                  (try rw [show 0 * 14 = 0 from rfl] at hx253_10)
                  (try rw [Addr.add_zero'] at hx253_10)
                  (try rw [show ((0 : Int)).toNat = 0 from rfl] at hx253_11)
                  (try rw [show 0 * 14 = 0 from rfl] at hx253_11)
                  (try rw [Addr.add_zero'] at hx253_11)
                  (try rw [show ((0 : Int)).toNat = 0 from rfl] at hx253_12)
                  (try rw [show 0 * 14 = 0 from rfl] at hx253_12)
                  (try rw [Addr.add_zero'] at hx253_12)
                  (try rw [show ((0 : Int)).toNat = 0 from rfl] at hx253_13)
                  (try rw [show 0 * 14 = 0 from rfl] at hx253_13)
                  (try rw [Addr.add_zero'] at hx253_13)
                  have HR253_1 := Aside0.mk hi253_1
                  have HC253_1 := Aside0.mk hl253_1
                  clear hi253_1 hl253_1
                  have HR253_2 := Aside0.mk hi253_2
                  have HC253_2 := Aside0.mk hl253_2
                  clear hi253_2 hl253_2
                  have HR253_8 := Aside0.mk hi253_8
                  have HC253_8 := Aside0.mk hl253_8
                  clear hi253_8 hl253_8
                  have HR253_9 := Aside0.mk hi253_9
                  have HC253_9 := Aside0.mk hl253_9
                  clear hi253_9 hl253_9
                  replace p253 := eq_true p253
                  replace q253 := eq_true q253
                  have p254 : 0 ≤ (0 : Int) := (by omega)
                  have q254 : 0 < ((rd_L6 t249 x26_2).length : Int) := of_decide_eq_true (by first | (with_reducible assumption) | assumption)
                  obtain ⟨ad254, A254_1, c254_1, A254_2, c254_2, A254_8, c254_8, A254_9, c254_9, e254, hx254_0, hx254_1, hx254_2, hx254_3, hx254_4, hx254_5, hx254_6, hx254_7, hx254_8, hx254_9, hx254_10, hx254_11, hx254_12, hx254_13, hl254_1, hi254_1, hl254_2, hi254_2, hl254_8, hi254_8, hl254_9, hi254_9⟩ := at_T38 (by repeat (first | (with_reducible exact HR252_0.out) | (with_reducible refine Kd.C_alloc ?_ _) | (with_reducible refine Kd.C_drewN ?_ _) | (with_reducible refine Kd.C_drew ?_) | exact HR252_0.out)) 0 p254 q254
                  obtain rfl : ad253 = ad254 := (by injection e254)
                  obtain ⟨ce254, hce254, hMe254, hcc254⟩ := Kd.V_get HL252_0.out z38 0 p254 (by first | exact q254 | exact of_decide_eq_true (by first | (with_reducible assumption) | assumption) | (have e_ := (Kd.V_reads' HL252_0.out).1; omega))
                  obtain ⟨ua254_1, uc254_1, ua254_2, uc254_2, ua254_8, uc254_8, ua254_9, uc254_9, rfl, ul254_1, ge254_1, ul254_2, ge254_2, ul254_8, ge254_8, ul254_9, ge254_9⟩ := k38_openF hMe254
                  have hv254_1 := hcc254 1 _ rfl
                  rw [add_field _ _ 1 (by omega)] at hv254_1
                  replace hv254_1 := Option.some.inj (hv254_1.symm.trans hx254_1)
                  injection hv254_1 with hva_ hvn_ hvc_
                  rw [hva_] at ge254_1
                  rw [hvc_] at ul254_1
                  have HL254_1 := Ext.a (show Kd.V (Kd.int .u8) 5 _ w.heap.size _ _ ((rd_T38 (rd_L6 t249 x26_2) 0).f1.f0) from Kd.V_mk ul254_1 ge254_1)
                  clear hva_ hvn_ hvc_ ge254_1 ul254_1
                  have hv254_2 := hcc254 2 _ rfl
                  rw [add_field _ _ 2 (by omega)] at hv254_2
                  replace hv254_2 := Option.some.inj (hv254_2.symm.trans hx254_2)
                  injection hv254_2 with hva_ hvn_ hvc_
                  rw [hva_] at ge254_2
                  rw [hvc_] at ul254_2
                  have HL254_2 := Ext.a (show Kd.V (Kd.int .u8) 5 _ w.heap.size _ _ ((rd_T38 (rd_L6 t249 x26_2) 0).f1.f1) from Kd.V_mk ul254_2 ge254_2)
                  clear hva_ hvn_ hvc_ ge254_2 ul254_2
                  have hv254_8 := hcc254 8 _ rfl
                  rw [add_field _ _ 8 (by omega)] at hv254_8
                  replace hv254_8 := Option.some.inj (hv254_8.symm.trans hx254_8)
                  injection hv254_8 with hva_ hvn_ hvc_
                  rw [hva_] at ge254_8
                  rw [hvc_] at ul254_8
                  have HL254_8 := Ext.a (show Kd.V (Kd.int .u8) 5 _ w.heap.size _ _ ((rd_T38 (rd_L6 t249 x26_2) 0).f3.f0) from Kd.V_mk ul254_8 ge254_8)
                  clear hva_ hvn_ hvc_ ge254_8 ul254_8
                  have hv254_9 := hcc254 9 _ rfl
                  rw [add_field _ _ 9 (by omega)] at hv254_9
                  replace hv254_9 := Option.some.inj (hv254_9.symm.trans hx254_9)
                  injection hv254_9 with hva_ hvn_ hvc_
                  rw [hva_] at ge254_9
                  rw [hvc_] at ul254_9
                  have HL254_9 := Ext.a (show Kd.V (Kd.int .u8) 5 _ w.heap.size _ _ ((rd_T38 (rd_L6 t249 x26_2) 0).f3.f1) from Kd.V_mk ul254_9 ge254_9)
                  clear hva_ hvn_ hvc_ ge254_9 ul254_9
                  clear hcc254 hce254
                  have qi254 : (0 < (rd_L6 t249 x26_2).length) = True := eq_true (by omega)
                  (try rw [show ((0 : Int)).toNat = 0 from rfl] at hx254_0)
                  (try rw [show 0 * 14 = 0 from rfl] at hx254_0)
                  (try rw [Addr.add_zero'] at hx254_0)
                  (try rw [show ((0 : Int)).toNat = 0 from rfl] at hx254_1)
                  (try rw [show 0 * 14 = 0 from rfl] at hx254_1)
                  (try rw [Addr.add_zero'] at hx254_1)
                  (try rw [show ((0 : Int)).toNat = 0 from rfl] at hx254_2)
                  (try rw [show 0 * 14 = 0 from rfl] at hx254_2)
                  (try rw [Addr.add_zero'] at hx254_2)
                  (try rw [show ((0 : Int)).toNat = 0 from rfl] at hx254_3)
                  (try rw [show 0 * 14 = 0 from rfl] at hx254_3)
                  (try rw [Addr.add_zero'] at hx254_3)
                  (try rw [show ((0 : Int)).toNat = 0 from rfl] at hx254_4)
                  (try rw [show 0 * 14 = 0 from rfl] at hx254_4)
                  (try rw [Addr.add_zero'] at hx254_4)
                  (try rw [show ((0 : Int)).toNat = 0 from rfl] at hx254_5)
                  (try rw [show 0 * 14 = 0 from rfl] at hx254_5)
                  (try rw [Addr.add_zero'] at hx254_5)
                  (try rw [show ((0 : Int)).toNat = 0 from rfl] at hx254_6)
                  (try rw [show 0 * 14 = 0 from rfl] at hx254_6)
                  (try rw [Addr.add_zero'] at hx254_6)
                  (try rw [show ((0 : Int)).toNat = 0 from rfl] at hx254_7)
                  (try rw [show 0 * 14 = 0 from rfl] at hx254_7)
                  (try rw [Addr.add_zero'] at hx254_7)
                  (try rw [show ((0 : Int)).toNat = 0 from rfl] at hx254_8)
                  (try rw [show 0 * 14 = 0 from rfl] at hx254_8)
                  (try rw [Addr.add_zero'] at hx254_8)
                  (try rw [show ((0 : Int)).toNat = 0 from rfl] at hx254_9)
                  (try rw [show 0 * 14 = 0 from rfl] at hx254_9)
                  (try rw [Addr.add_zero'] at hx254_9)
                  (try rw [show ((0 : Int)).toNat = 0 from rfl] at hx254_10)
                  (try rw [show 0 * 14 = 0 from rfl] at hx254_10)
                  (try rw [Addr.add_zero'] at hx254_10)
                  (try rw [show ((0 : Int)).toNat = 0 from rfl] at hx254_11)
                  (try rw [show 0 * 14 = 0 from rfl] at hx254_11)
                  (try rw [Addr.add_zero'] at hx254_11)
                  (try rw [show ((0 : Int)).toNat = 0 from rfl] at hx254_12)
                  (try rw [show 0 * 14 = 0 from rfl] at hx254_12)
                  (try rw [Addr.add_zero'] at hx254_12)
                  (try rw [show ((0 : Int)).toNat = 0 from rfl] at hx254_13)
                  (try rw [show 0 * 14 = 0 from rfl] at hx254_13)
                  (try rw [Addr.add_zero'] at hx254_13)
                  have HR254_1 := Aside0.mk hi254_1
                  have HC254_1 := Aside0.mk hl254_1
                  clear hi254_1 hl254_1
                  have HR254_2 := Aside0.mk hi254_2
                  have HC254_2 := Aside0.mk hl254_2
                  clear hi254_2 hl254_2
                  have HR254_8 := Aside0.mk hi254_8
                  have HC254_8 := Aside0.mk hl254_8
                  clear hi254_8 hl254_8
                  have HR254_9 := Aside0.mk hi254_9
                  have HC254_9 := Aside0.mk hl254_9
                  clear hi254_9 hl254_9
                  replace p254 := eq_true p254
                  replace q254 := eq_true q254
                  have ea_ := Option.some.inj (hx253_1.symm.trans hx254_1)
                  injection ea_ with ea_ en_ ec_
                  subst ea_
                  subst ec_
                  clear en_
                  have ea_ := Option.some.inj (hx253_2.symm.trans hx254_2)
                  injection ea_ with ea_ en_ ec_
                  subst ea_
                  subst ec_
                  clear en_
                  have ea_ := Option.some.inj (hx253_8.symm.trans hx254_8)
                  injection ea_ with ea_ en_ ec_
                  subst ea_
                  subst ec_
                  clear en_
                  have ea_ := Option.some.inj (hx253_9.symm.trans hx254_9)
                  injection ea_ with ea_ en_ ec_
                  subst ea_
                  subst ec_
                  clear en_
                  have p255 : 0 ≤ ((ji30) : Int) := of_decide_eq_true (by first | (with_reducible assumption) | assumption)
                  have q255 : (ji30) < ((rd_L6 t249 x26_2).length : Int) := of_decide_eq_true (by first | (with_reducible assumption) | assumption)
                  obtain ⟨ad255, A255_1, c255_1, A255_2, c255_2, A255_8, c255_8, A255_9, c255_9, e255, hx255_0, hx255_1, hx255_2, hx255_3, hx255_4, hx255_5, hx255_6, hx255_7, hx255_8, hx255_9, hx255_10, hx255_11, hx255_12, hx255_13, hl255_1, hi255_1, hl255_2, hi255_2, hl255_8, hi255_8, hl255_9, hi255_9⟩ := at_T38 (by repeat (first | (with_reducible exact HR252_0.out) | (with_reducible refine Kd.C_alloc ?_ _) | (with_reducible refine Kd.C_drewN ?_ _) | (with_reducible refine Kd.C_drew ?_) | exact HR252_0.out)) (ji30) p255 q255
                  obtain rfl : ad253 = ad255 := (by injection e255)
                  obtain ⟨ce255, hce255, hMe255, hcc255⟩ := Kd.V_get HL252_0.out z38 (ji30) p255 (by first | exact q255 | exact of_decide_eq_true (by first | (with_reducible assumption) | assumption) | (have e_ := (Kd.V_reads' HL252_0.out).1; omega))
                  obtain ⟨ua255_1, uc255_1, ua255_2, uc255_2, ua255_8, uc255_8, ua255_9, uc255_9, rfl, ul255_1, ge255_1, ul255_2, ge255_2, ul255_8, ge255_8, ul255_9, ge255_9⟩ := k38_openF hMe255
                  have hv255_1 := hcc255 1 _ rfl
                  rw [add_field _ _ 1 (by omega)] at hv255_1
                  replace hv255_1 := Option.some.inj (hv255_1.symm.trans hx255_1)
                  injection hv255_1 with hva_ hvn_ hvc_
                  rw [hva_] at ge255_1
                  rw [hvc_] at ul255_1
                  have HL255_1 := Ext.a (show Kd.V (Kd.int .u8) 5 _ w.heap.size _ _ ((rd_T38 (rd_L6 t249 x26_2) (ji30)).f1.f0) from Kd.V_mk ul255_1 ge255_1)
                  clear hva_ hvn_ hvc_ ge255_1 ul255_1
                  have hv255_2 := hcc255 2 _ rfl
                  rw [add_field _ _ 2 (by omega)] at hv255_2
                  replace hv255_2 := Option.some.inj (hv255_2.symm.trans hx255_2)
                  injection hv255_2 with hva_ hvn_ hvc_
                  rw [hva_] at ge255_2
                  rw [hvc_] at ul255_2
                  have HL255_2 := Ext.a (show Kd.V (Kd.int .u8) 5 _ w.heap.size _ _ ((rd_T38 (rd_L6 t249 x26_2) (ji30)).f1.f1) from Kd.V_mk ul255_2 ge255_2)
                  clear hva_ hvn_ hvc_ ge255_2 ul255_2
                  have hv255_8 := hcc255 8 _ rfl
                  rw [add_field _ _ 8 (by omega)] at hv255_8
                  replace hv255_8 := Option.some.inj (hv255_8.symm.trans hx255_8)
                  injection hv255_8 with hva_ hvn_ hvc_
                  rw [hva_] at ge255_8
                  rw [hvc_] at ul255_8
                  have HL255_8 := Ext.a (show Kd.V (Kd.int .u8) 5 _ w.heap.size _ _ ((rd_T38 (rd_L6 t249 x26_2) (ji30)).f3.f0) from Kd.V_mk ul255_8 ge255_8)
                  clear hva_ hvn_ hvc_ ge255_8 ul255_8
                  have hv255_9 := hcc255 9 _ rfl
                  rw [add_field _ _ 9 (by omega)] at hv255_9
                  replace hv255_9 := Option.some.inj (hv255_9.symm.trans hx255_9)
                  injection hv255_9 with hva_ hvn_ hvc_
                  rw [hva_] at ge255_9
                  rw [hvc_] at ul255_9
                  have HL255_9 := Ext.a (show Kd.V (Kd.int .u8) 5 _ w.heap.size _ _ ((rd_T38 (rd_L6 t249 x26_2) (ji30)).f3.f1) from Kd.V_mk ul255_9 ge255_9)
                  clear hva_ hvn_ hvc_ ge255_9 ul255_9
                  clear hcc255 hce255
                  have HR255_1 := Aside0.mk hi255_1
                  have HC255_1 := Aside0.mk hl255_1
                  clear hi255_1 hl255_1
                  have HR255_2 := Aside0.mk hi255_2
                  have HC255_2 := Aside0.mk hl255_2
                  clear hi255_2 hl255_2
                  have HR255_8 := Aside0.mk hi255_8
                  have HC255_8 := Aside0.mk hl255_8
                  clear hi255_8 hl255_8
                  have HR255_9 := Aside0.mk hi255_9
                  have HC255_9 := Aside0.mk hl255_9
                  clear hi255_9 hl255_9
                  replace p255 := eq_true p255
                  replace q255 := eq_true q255
                  have p256 : 0 ≤ ((ji30) : Int) := of_decide_eq_true (by first | (with_reducible assumption) | assumption)
                  have q256 : (ji30) < ((rd_L6 t249 x26_2).length : Int) := of_decide_eq_true (by first | (with_reducible assumption) | assumption)
                  obtain ⟨ad256, A256_1, c256_1, A256_2, c256_2, A256_8, c256_8, A256_9, c256_9, e256, hx256_0, hx256_1, hx256_2, hx256_3, hx256_4, hx256_5, hx256_6, hx256_7, hx256_8, hx256_9, hx256_10, hx256_11, hx256_12, hx256_13, hl256_1, hi256_1, hl256_2, hi256_2, hl256_8, hi256_8, hl256_9, hi256_9⟩ := at_T38 (by repeat (first | (with_reducible exact HR252_0.out) | (with_reducible refine Kd.C_alloc ?_ _) | (with_reducible refine Kd.C_drewN ?_ _) | (with_reducible refine Kd.C_drew ?_) | exact HR252_0.out)) (ji30) p256 q256
                  obtain rfl : ad253 = ad256 := (by injection e256)
                  obtain ⟨ce256, hce256, hMe256, hcc256⟩ := Kd.V_get HL252_0.out z38 (ji30) p256 (by first | exact q256 | exact of_decide_eq_true (by first | (with_reducible assumption) | assumption) | (have e_ := (Kd.V_reads' HL252_0.out).1; omega))
                  obtain ⟨ua256_1, uc256_1, ua256_2, uc256_2, ua256_8, uc256_8, ua256_9, uc256_9, rfl, ul256_1, ge256_1, ul256_2, ge256_2, ul256_8, ge256_8, ul256_9, ge256_9⟩ := k38_openF hMe256
                  have hv256_1 := hcc256 1 _ rfl
                  rw [add_field _ _ 1 (by omega)] at hv256_1
                  replace hv256_1 := Option.some.inj (hv256_1.symm.trans hx256_1)
                  injection hv256_1 with hva_ hvn_ hvc_
                  rw [hva_] at ge256_1
                  rw [hvc_] at ul256_1
                  have HL256_1 := Ext.a (show Kd.V (Kd.int .u8) 5 _ w.heap.size _ _ ((rd_T38 (rd_L6 t249 x26_2) (ji30)).f1.f0) from Kd.V_mk ul256_1 ge256_1)
                  clear hva_ hvn_ hvc_ ge256_1 ul256_1
                  have hv256_2 := hcc256 2 _ rfl
                  rw [add_field _ _ 2 (by omega)] at hv256_2
                  replace hv256_2 := Option.some.inj (hv256_2.symm.trans hx256_2)
                  injection hv256_2 with hva_ hvn_ hvc_
                  rw [hva_] at ge256_2
                  rw [hvc_] at ul256_2
                  have HL256_2 := Ext.a (show Kd.V (Kd.int .u8) 5 _ w.heap.size _ _ ((rd_T38 (rd_L6 t249 x26_2) (ji30)).f1.f1) from Kd.V_mk ul256_2 ge256_2)
                  clear hva_ hvn_ hvc_ ge256_2 ul256_2
                  have hv256_8 := hcc256 8 _ rfl
                  rw [add_field _ _ 8 (by omega)] at hv256_8
                  replace hv256_8 := Option.some.inj (hv256_8.symm.trans hx256_8)
                  injection hv256_8 with hva_ hvn_ hvc_
                  rw [hva_] at ge256_8
                  rw [hvc_] at ul256_8
                  have HL256_8 := Ext.a (show Kd.V (Kd.int .u8) 5 _ w.heap.size _ _ ((rd_T38 (rd_L6 t249 x26_2) (ji30)).f3.f0) from Kd.V_mk ul256_8 ge256_8)
                  clear hva_ hvn_ hvc_ ge256_8 ul256_8
                  have hv256_9 := hcc256 9 _ rfl
                  rw [add_field _ _ 9 (by omega)] at hv256_9
                  replace hv256_9 := Option.some.inj (hv256_9.symm.trans hx256_9)
                  injection hv256_9 with hva_ hvn_ hvc_
                  rw [hva_] at ge256_9
                  rw [hvc_] at ul256_9
                  have HL256_9 := Ext.a (show Kd.V (Kd.int .u8) 5 _ w.heap.size _ _ ((rd_T38 (rd_L6 t249 x26_2) (ji30)).f3.f1) from Kd.V_mk ul256_9 ge256_9)
                  clear hva_ hvn_ hvc_ ge256_9 ul256_9
                  clear hcc256 hce256
                  have HR256_1 := Aside0.mk hi256_1
                  have HC256_1 := Aside0.mk hl256_1
                  clear hi256_1 hl256_1
                  have HR256_2 := Aside0.mk hi256_2
                  have HC256_2 := Aside0.mk hl256_2
                  clear hi256_2 hl256_2
                  have HR256_8 := Aside0.mk hi256_8
                  have HC256_8 := Aside0.mk hl256_8
                  clear hi256_8 hl256_8
                  have HR256_9 := Aside0.mk hi256_9
                  have HC256_9 := Aside0.mk hl256_9
                  clear hi256_9 hl256_9
                  replace p256 := eq_true p256
                  replace q256 := eq_true q256
                  have ea_ := Option.some.inj (hx255_1.symm.trans hx256_1)
                  injection ea_ with ea_ en_ ec_
                  subst ea_
                  subst ec_
                  clear en_
                  have ea_ := Option.some.inj (hx255_2.symm.trans hx256_2)
                  injection ea_ with ea_ en_ ec_
                  subst ea_
                  subst ec_
                  clear en_
                  have ea_ := Option.some.inj (hx255_8.symm.trans hx256_8)
                  injection ea_ with ea_ en_ ec_
                  subst ea_
                  subst ec_
                  clear en_
                  have ea_ := Option.some.inj (hx255_9.symm.trans hx256_9)
                  injection ea_ with ea_ en_ ec_
                  subst ea_
                  subst ec_
                  clear en_
                  go_wp2_with (first | ((with_reducible refine gate_builtin (b := .append) (xs := #[.tmp 78, .tmp 79]) rfl ?_); (try (refine gate_guard (by rfl) ?_; dsimp only)); at_builtin; refine Kd.N_append_rows k38 (w0 := w) w.heap.size rfl (.tmp 78) (.tmp 79) 22 38 (.agg #[(.int .i64 0), (.slice none 0 0), (.slice none 0 0), (.int .i64 0), (.int .i64 0), (.int .i64 0), (.int .i64 0), (.bool false), (.slice none 0 0), (.slice none 0 0), (.int .i64 0), (.int .i64 0), (.int .i64 0), (.int .i64 0)]) 176 rfl Try.underlying22 info38 rfl (by decide) (by omega) u5 x5_2 (rd_L6 t249 x26_2) _ _ _ (fun k_ => some k_ ≠ (.slice (some ad252) t249.length co20 : Value).ownBlock) (fun k_ => ((fun k_ => some k_ ≠ (.slice (some ad252) t249.length co20 : Value).ownBlock)) k_ ∧ some k_ ≠ (u5 : Value).ownBlock) rfl rfl ?aO ?aR (fun _ hk => hk) ?aF ?aB ?aS ?aL ?_; (case aR => exact (by skip; exact Kd.V_F (Kd.V_mono (ok' := (fun k_ => ((fun k_ => some k_ ≠ (.slice (some ad252) t249.length co20 : Value).ownBlock)) k_ ∧ some k_ ≠ (u5 : Value).ownBlock)) (Ext.nV HL252_0.out) (fun k_ hk => ⟨hk.2, hk.1⟩)))); (case aB => exact (Ext.nB HB.out)); (case aF => exact (fun k_ hk => Kd.fresh' (Kd.N_lt (Ext.nN HO_24.out)) k_ hk)); (case aO => exact (Ext.nN HO_5.out)); (case aS => exact (below_size (Ext.nB HB.out))); (case aL => have := LMc34.out; omega); intro v258 w35 ho hb hg hat; rw [← Ny257.out] at ho; have n0_ := Ext.a (Kd.N_afterv (ok := (fun _ => True)) (Ext.nN (Kd.N_mono HO_24.out (fun _ hk => ⟨trivial, hk⟩))) hg hat); have n1_ := Ext.a (Kd.V_afterv (ok := (fun k_ => some k_ ≠ (.slice (some ad252) t249.length co20 : Value).ownBlock)) (Ext.nV (Kd.V_mono HL252_0.out (fun _ hk => ⟨hk.2, hk.1⟩))) hg hat); have n2_ := Ext.a (Kd.V_afterv (ok := (fun k_ => some k_ ≠ (.slice (some ad252) t249.length co20 : Value).ownBlock)) (Ext.nV (Kd.V_mono HL253_1.out (fun _ hk => ⟨hk.2, hk.1⟩))) hg hat); have n3_ := Ext.a (Kd.V_afterv (ok := (fun k_ => some k_ ≠ (.slice (some ad252) t249.length co20 : Value).ownBlock)) (Ext.nV (Kd.V_mono HL253_2.out (fun _ hk => ⟨hk.2, hk.1⟩))) hg hat); have n4_ := Ext.a (Kd.V_afterv (ok := (fun k_ => some k_ ≠ (.slice (some ad252) t249.length co20 : Value).ownBlock)) (Ext.nV (Kd.V_mono HL253_8.out (fun _ hk => ⟨hk.2, hk.1⟩))) hg hat); have n5_ := Ext.a (Kd.V_afterv (ok := (fun k_ => some k_ ≠ (.slice (some ad252) t249.length co20 : Value).ownBlock)) (Ext.nV (Kd.V_mono HL253_9.out (fun _ hk => ⟨hk.2, hk.1⟩))) hg hat); have n6_ := Ext.a (Kd.V_afterv (ok := (fun k_ => some k_ ≠ (.slice (some ad252) t249.length co20 : Value).ownBlock)) (Ext.nV (Kd.V_mono HL254_1.out (fun _ hk => ⟨hk.2, hk.1⟩))) hg hat); have n7_ := Ext.a (Kd.V_afterv (ok := (fun k_ => some k_ ≠ (.slice (some ad252) t249.length co20 : Value).ownBlock)) (Ext.nV (Kd.V_mono HL254_2.out (fun _ hk => ⟨hk.2, hk.1⟩))) hg hat); have n8_ := Ext.a (Kd.V_afterv (ok := (fun k_ => some k_ ≠ (.slice (some ad252) t249.length co20 : Value).ownBlock)) (Ext.nV (Kd.V_mono HL254_8.out (fun _ hk => ⟨hk.2, hk.1⟩))) hg hat); have n9_ := Ext.a (Kd.V_afterv (ok := (fun k_ => some k_ ≠ (.slice (some ad252) t249.length co20 : Value).ownBlock)) (Ext.nV (Kd.V_mono HL254_9.out (fun _ hk => ⟨hk.2, hk.1⟩))) hg hat); have n10_ := Ext.a (Kd.V_afterv (ok := (fun k_ => some k_ ≠ (.slice (some ad252) t249.length co20 : Value).ownBlock)) (Ext.nV (Kd.V_mono HL255_1.out (fun _ hk => ⟨hk.2, hk.1⟩))) hg hat); have n11_ := Ext.a (Kd.V_afterv (ok := (fun k_ => some k_ ≠ (.slice (some ad252) t249.length co20 : Value).ownBlock)) (Ext.nV (Kd.V_mono HL255_2.out (fun _ hk => ⟨hk.2, hk.1⟩))) hg hat); have n12_ := Ext.a (Kd.V_afterv (ok := (fun k_ => some k_ ≠ (.slice (some ad252) t249.length co20 : Value).ownBlock)) (Ext.nV (Kd.V_mono HL255_8.out (fun _ hk => ⟨hk.2, hk.1⟩))) hg hat); have n13_ := Ext.a (Kd.V_afterv (ok := (fun k_ => some k_ ≠ (.slice (some ad252) t249.length co20 : Value).ownBlock)) (Ext.nV (Kd.V_mono HL255_9.out (fun _ hk => ⟨hk.2, hk.1⟩))) hg hat); have n14_ := Ext.a (Kd.V_afterv (ok := (fun k_ => some k_ ≠ (.slice (some ad252) t249.length co20 : Value).ownBlock)) (Ext.nV (Kd.V_mono HL256_1.out (fun _ hk => ⟨hk.2, hk.1⟩))) hg hat); have n15_ := Ext.a (Kd.V_afterv (ok := (fun k_ => some k_ ≠ (.slice (some ad252) t249.length co20 : Value).ownBlock)) (Ext.nV (Kd.V_mono HL256_2.out (fun _ hk => ⟨hk.2, hk.1⟩))) hg hat); have n16_ := Ext.a (Kd.V_afterv (ok := (fun k_ => some k_ ≠ (.slice (some ad252) t249.length co20 : Value).ownBlock)) (Ext.nV (Kd.V_mono HL256_8.out (fun _ hk => ⟨hk.2, hk.1⟩))) hg hat); have n17_ := Ext.a (Kd.V_afterv (ok := (fun k_ => some k_ ≠ (.slice (some ad252) t249.length co20 : Value).ownBlock)) (Ext.nV (Kd.V_mono HL256_9.out (fun _ hk => ⟨hk.2, hk.1⟩))) hg hat); have n18_ := Ext.a (hb); have n19_ := Ext.a (ho); clear HO_24 HL252_0 HL253_1 HL253_2 HL253_8 HL253_9 HL254_1 HL254_2 HL254_8 HL254_9 HL255_1 HL255_2 HL255_8 HL255_9 HL256_1 HL256_2 HL256_8 HL256_9 HB HO_5; have HO_24 := n0_; have HL252_0 := n1_; have HL253_1 := n2_; have HL253_2 := n3_; have HL253_8 := n4_; have HL253_9 := n5_; have HL254_1 := n6_; have HL254_2 := n7_; have HL254_8 := n8_; have HL254_9 := n9_; have HL255_1 := n10_; have HL255_2 := n11_; have HL255_8 := n12_; have HL255_9 := n13_; have HL256_1 := n14_; have HL256_2 := n15_; have HL256_8 := n16_; have HL256_9 := n17_; have HB := n18_; have HO259 := n19_; clear n0_ n1_ n2_ n3_ n4_ n5_ n6_ n7_ n8_ n9_ n10_ n11_ n12_ n13_ n14_ n15_ n16_ n17_ n18_ n19_; clear ho hb hg hat))
                  repeat (go_quiet (first | ((with_reducible refine gate_builtin (b := .append) (xs := #[.tmp 78, .tmp 79]) rfl ?_); (try (refine gate_guard (by rfl) ?_; dsimp only)); at_builtin; refine Kd.N_append_rows k38 (w0 := w) w.heap.size rfl (.tmp 78) (.tmp 79) 22 38 (.agg #[(.int .i64 0), (.slice none 0 0), (.slice none 0 0), (.int .i64 0), (.int .i64 0), (.int .i64 0), (.int .i64 0), (.bool false), (.slice none 0 0), (.slice none 0 0), (.int .i64 0), (.int .i64 0), (.int .i64 0), (.int .i64 0)]) 176 rfl Try.underlying22 info38 rfl (by decide) (by omega) u5 x5_2 (rd_L6 t249 x26_2) _ _ _ (fun k_ => some k_ ≠ (.slice (some ad252) t249.length co20 : Value).ownBlock) (fun k_ => ((fun k_ => some k_ ≠ (.slice (some ad252) t249.length co20 : Value).ownBlock)) k_ ∧ some k_ ≠ (u5 : Value).ownBlock) rfl rfl ?aO ?aR (fun _ hk => hk) ?aF ?aB ?aS ?aL ?_; (case aR => exact (by skip; exact Kd.V_F (Kd.V_mono (ok' := (fun k_ => ((fun k_ => some k_ ≠ (.slice (some ad252) t249.length co20 : Value).ownBlock)) k_ ∧ some k_ ≠ (u5 : Value).ownBlock)) (Ext.nV HL252_0.out) (fun k_ hk => ⟨hk.2, hk.1⟩)))); (case aB => exact (Ext.nB HB.out)); (case aF => exact (fun k_ hk => Kd.fresh' (Kd.N_lt (Ext.nN HO_24.out)) k_ hk)); (case aO => exact (Ext.nN HO_5.out)); (case aS => exact (below_size (Ext.nB HB.out))); (case aL => have := LMc34.out; omega); intro v258 w35 ho hb hg hat; rw [← Ny257.out] at ho; have n0_ := Ext.a (Kd.N_afterv (ok := (fun _ => True)) (Ext.nN (Kd.N_mono HO_24.out (fun _ hk => ⟨trivial, hk⟩))) hg hat); have n1_ := Ext.a (Kd.V_afterv (ok := (fun k_ => some k_ ≠ (.slice (some ad252) t249.length co20 : Value).ownBlock)) (Ext.nV (Kd.V_mono HL252_0.out (fun _ hk => ⟨hk.2, hk.1⟩))) hg hat); have n2_ := Ext.a (Kd.V_afterv (ok := (fun k_ => some k_ ≠ (.slice (some ad252) t249.length co20 : Value).ownBlock)) (Ext.nV (Kd.V_mono HL253_1.out (fun _ hk => ⟨hk.2, hk.1⟩))) hg hat); have n3_ := Ext.a (Kd.V_afterv (ok := (fun k_ => some k_ ≠ (.slice (some ad252) t249.length co20 : Value).ownBlock)) (Ext.nV (Kd.V_mono HL253_2.out (fun _ hk => ⟨hk.2, hk.1⟩))) hg hat); have n4_ := Ext.a (Kd.V_afterv (ok := (fun k_ => some k_ ≠ (.slice (some ad252) t249.length co20 : Value).ownBlock)) (Ext.nV (Kd.V_mono HL253_8.out (fun _ hk => ⟨hk.2, hk.1⟩))) hg hat); have n5_ := Ext.a (Kd.V_afterv (ok := (fun k_ => some k_ ≠ (.slice (some ad252) t249.length co20 : Value).ownBlock)) (Ext.nV (Kd.V_mono HL253_9.out (fun _ hk => ⟨hk.2, hk.1⟩))) hg hat); have n6_ := Ext.a (Kd.V_afterv (ok := (fun k_ => some k_ ≠ (.slice (some ad252) t249.length co20 : Value).ownBlock)) (Ext.nV (Kd.V_mono HL254_1.out (fun _ hk => ⟨hk.2, hk.1⟩))) hg hat); have n7_ := Ext.a (Kd.V_afterv (ok := (fun k_ => some k_ ≠ (.slice (some ad252) t249.length co20 : Value).ownBlock)) (Ext.nV (Kd.V_mono HL254_2.out (fun _ hk => ⟨hk.2, hk.1⟩))) hg hat); have n8_ := Ext.a (Kd.V_afterv (ok := (fun k_ => some k_ ≠ (.slice (some ad252) t249.length co20 : Value).ownBlock)) (Ext.nV (Kd.V_mono HL254_8.out (fun _ hk => ⟨hk.2, hk.1⟩))) hg hat); have n9_ := Ext.a (Kd.V_afterv (ok := (fun k_ => some k_ ≠ (.slice (some ad252) t249.length co20 : Value).ownBlock)) (Ext.nV (Kd.V_mono HL254_9.out (fun _ hk => ⟨hk.2, hk.1⟩))) hg hat); have n10_ := Ext.a (Kd.V_afterv (ok := (fun k_ => some k_ ≠ (.slice (some ad252) t249.length co20 : Value).ownBlock)) (Ext.nV (Kd.V_mono HL255_1.out (fun _ hk => ⟨hk.2, hk.1⟩))) hg hat); have n11_ := Ext.a (Kd.V_afterv (ok := (fun k_ => some k_ ≠ (.slice (some ad252) t249.length co20 : Value).ownBlock)) (Ext.nV (Kd.V_mono HL255_2.out (fun _ hk => ⟨hk.2, hk.1⟩))) hg hat); have n12_ := Ext.a (Kd.V_afterv (ok := (fun k_ => some k_ ≠ (.slice (some ad252) t249.length co20 : Value).ownBlock)) (Ext.nV (Kd.V_mono HL255_8.out (fun _ hk => ⟨hk.2, hk.1⟩))) hg hat); have n13_ := Ext.a (Kd.V_afterv (ok := (fun k_ => some k_ ≠ (.slice (some ad252) t249.length co20 : Value).ownBlock)) (Ext.nV (Kd.V_mono HL255_9.out (fun _ hk => ⟨hk.2, hk.1⟩))) hg hat); have n14_ := Ext.a (Kd.V_afterv (ok := (fun k_ => some k_ ≠ (.slice (some ad252) t249.length co20 : Value).ownBlock)) (Ext.nV (Kd.V_mono HL256_1.out (fun _ hk => ⟨hk.2, hk.1⟩))) hg hat); have n15_ := Ext.a (Kd.V_afterv (ok := (fun k_ => some k_ ≠ (.slice (some ad252) t249.length co20 : Value).ownBlock)) (Ext.nV (Kd.V_mono HL256_2.out (fun _ hk => ⟨hk.2, hk.1⟩))) hg hat); have n16_ := Ext.a (Kd.V_afterv (ok := (fun k_ => some k_ ≠ (.slice (some ad252) t249.length co20 : Value).ownBlock)) (Ext.nV (Kd.V_mono HL256_8.out (fun _ hk => ⟨hk.2, hk.1⟩))) hg hat); have n17_ := Ext.a (Kd.V_afterv (ok := (fun k_ => some k_ ≠ (.slice (some ad252) t249.length co20 : Value).ownBlock)) (Ext.nV (Kd.V_mono HL256_9.out (fun _ hk => ⟨hk.2, hk.1⟩))) hg hat); have n18_ := Ext.a (hb); have n19_ := Ext.a (ho); clear HO_24 HL252_0 HL253_1 HL253_2 HL253_8 HL253_9 HL254_1 HL254_2 HL254_8 HL254_9 HL255_1 HL255_2 HL255_8 HL255_9 HL256_1 HL256_2 HL256_8 HL256_9 HB HO_5; have HO_24 := n0_; have HL252_0 := n1_; have HL253_1 := n2_; have HL253_2 := n3_; have HL253_8 := n4_; have HL253_9 := n5_; have HL254_1 := n6_; have HL254_2 := n7_; have HL254_8 := n8_; have HL254_9 := n9_; have HL255_1 := n10_; have HL255_2 := n11_; have HL255_8 := n12_; have HL255_9 := n13_; have HL256_1 := n14_; have HL256_2 := n15_; have HL256_8 := n16_; have HL256_9 := n17_; have HB := n18_; have HO259 := n19_; clear n0_ n1_ n2_ n3_ n4_ n5_ n6_ n7_ n8_ n9_ n10_ n11_ n12_ n13_ n14_ n15_ n16_ n17_ n18_ n19_; clear ho hb hg hat)); try go_wp2_with (first | ((with_reducible refine gate_builtin (b := .append) (xs := #[.tmp 78, .tmp 79]) rfl ?_); (try (refine gate_guard (by rfl) ?_; dsimp only)); at_builtin; refine Kd.N_append_rows k38 (w0 := w) w.heap.size rfl (.tmp 78) (.tmp 79) 22 38 (.agg #[(.int .i64 0), (.slice none 0 0), (.slice none 0 0), (.int .i64 0), (.int .i64 0), (.int .i64 0), (.int .i64 0), (.bool false), (.slice none 0 0), (.slice none 0 0), (.int .i64 0), (.int .i64 0), (.int .i64 0), (.int .i64 0)]) 176 rfl Try.underlying22 info38 rfl (by decide) (by omega) u5 x5_2 (rd_L6 t249 x26_2) _ _ _ (fun k_ => some k_ ≠ (.slice (some ad252) t249.length co20 : Value).ownBlock) (fun k_ => ((fun k_ => some k_ ≠ (.slice (some ad252) t249.length co20 : Value).ownBlock)) k_ ∧ some k_ ≠ (u5 : Value).ownBlock) rfl rfl ?aO ?aR (fun _ hk => hk) ?aF ?aB ?aS ?aL ?_; (case aR => exact (by skip; exact Kd.V_F (Kd.V_mono (ok' := (fun k_ => ((fun k_ => some k_ ≠ (.slice (some ad252) t249.length co20 : Value).ownBlock)) k_ ∧ some k_ ≠ (u5 : Value).ownBlock)) (Ext.nV HL252_0.out) (fun k_ hk => ⟨hk.2, hk.1⟩)))); (case aB => exact (Ext.nB HB.out)); (case aF => exact (fun k_ hk => Kd.fresh' (Kd.N_lt (Ext.nN HO_24.out)) k_ hk)); (case aO => exact (Ext.nN HO_5.out)); (case aS => exact (below_size (Ext.nB HB.out))); (case aL => have := LMc34.out; omega); intro v258 w35 ho hb hg hat; rw [← Ny257.out] at ho; have n0_ := Ext.a (Kd.N_afterv (ok := (fun _ => True)) (Ext.nN (Kd.N_mono HO_24.out (fun _ hk => ⟨trivial, hk⟩))) hg hat); have n1_ := Ext.a (Kd.V_afterv (ok := (fun k_ => some k_ ≠ (.slice (some ad252) t249.length co20 : Value).ownBlock)) (Ext.nV (Kd.V_mono HL252_0.out (fun _ hk => ⟨hk.2, hk.1⟩))) hg hat); have n2_ := Ext.a (Kd.V_afterv (ok := (fun k_ => some k_ ≠ (.slice (some ad252) t249.length co20 : Value).ownBlock)) (Ext.nV (Kd.V_mono HL253_1.out (fun _ hk => ⟨hk.2, hk.1⟩))) hg hat); have n3_ := Ext.a (Kd.V_afterv (ok := (fun k_ => some k_ ≠ (.slice (some ad252) t249.length co20 : Value).ownBlock)) (Ext.nV (Kd.V_mono HL253_2.out (fun _ hk => ⟨hk.2, hk.1⟩))) hg hat); have n4_ := Ext.a (Kd.V_afterv (ok := (fun k_ => some k_ ≠ (.slice (some ad252) t249.length co20 : Value).ownBlock)) (Ext.nV (Kd.V_mono HL253_8.out (fun _ hk => ⟨hk.2, hk.1⟩))) hg hat); have n5_ := Ext.a (Kd.V_afterv (ok := (fun k_ => some k_ ≠ (.slice (some ad252) t249.length co20 : Value).ownBlock)) (Ext.nV (Kd.V_mono HL253_9.out (fun _ hk => ⟨hk.2, hk.1⟩))) hg hat); have n6_ := Ext.a (Kd.V_afterv (ok := (fun k_ => some k_ ≠ (.slice (some ad252) t249.length co20 : Value).ownBlock)) (Ext.nV (Kd.V_mono HL254_1.out (fun _ hk => ⟨hk.2, hk.1⟩))) hg hat); have n7_ := Ext.a (Kd.V_afterv (ok := (fun k_ => some k_ ≠ (.slice (some ad252) t249.length co20 : Value).ownBlock)) (Ext.nV (Kd.V_mono HL254_2.out (fun _ hk => ⟨hk.2, hk.1⟩))) hg hat); have n8_ := Ext.a (Kd.V_afterv (ok := (fun k_ => some k_ ≠ (.slice (some ad252) t249.length co20 : Value).ownBlock)) (Ext.nV (Kd.V_mono HL254_8.out (fun _ hk => ⟨hk.2, hk.1⟩))) hg hat); have n9_ := Ext.a (Kd.V_afterv (ok := (fun k_ => some k_ ≠ (.slice (some ad252) t249.length co20 : Value).ownBlock)) (Ext.nV (Kd.V_mono HL254_9.out (fun _ hk => ⟨hk.2, hk.1⟩))) hg hat); have n10_ := Ext.a (Kd.V_afterv (ok := (fun k_ => some k_ ≠ (.slice (some ad252) t249.length co20 : Value).ownBlock)) (Ext.nV (Kd.V_mono HL255_1.out (fun _ hk => ⟨hk.2, hk.1⟩))) hg hat); have n11_ := Ext.a (Kd.V_afterv (ok := (fun k_ => some k_ ≠ (.slice (some ad252) t249.length co20 : Value).ownBlock)) (Ext.nV (Kd.V_mono HL255_2.out (fun _ hk => ⟨hk.2, hk.1⟩))) hg hat); have n12_ := Ext.a (Kd.V_afterv (ok := (fun k_ => some k_ ≠ (.slice (some ad252) t249.length co20 : Value).ownBlock)) (Ext.nV (Kd.V_mono HL255_8.out (fun _ hk => ⟨hk.2, hk.1⟩))) hg hat); have n13_ := Ext.a (Kd.V_afterv (ok := (fun k_ => some k_ ≠ (.slice (some ad252) t249.length co20 : Value).ownBlock)) (Ext.nV (Kd.V_mono HL255_9.out (fun _ hk => ⟨hk.2, hk.1⟩))) hg hat); have n14_ := Ext.a (Kd.V_afterv (ok := (fun k_ => some k_ ≠ (.slice (some ad252) t249.length co20 : Value).ownBlock)) (Ext.nV (Kd.V_mono HL256_1.out (fun _ hk => ⟨hk.2, hk.1⟩))) hg hat); have n15_ := Ext.a (Kd.V_afterv (ok := (fun k_ => some k_ ≠ (.slice (some ad252) t249.length co20 : Value).ownBlock)) (Ext.nV (Kd.V_mono HL256_2.out (fun _ hk => ⟨hk.2, hk.1⟩))) hg hat); have n16_ := Ext.a (Kd.V_afterv (ok := (fun k_ => some k_ ≠ (.slice (some ad252) t249.length co20 : Value).ownBlock)) (Ext.nV (Kd.V_mono HL256_8.out (fun _ hk => ⟨hk.2, hk.1⟩))) hg hat); have n17_ := Ext.a (Kd.V_afterv (ok := (fun k_ => some k_ ≠ (.slice (some ad252) t249.length co20 : Value).ownBlock)) (Ext.nV (Kd.V_mono HL256_9.out (fun _ hk => ⟨hk.2, hk.1⟩))) hg hat); have n18_ := Ext.a (hb); have n19_ := Ext.a (ho); clear HO_24 HL252_0 HL253_1 HL253_2 HL253_8 HL253_9 HL254_1 HL254_2 HL254_8 HL254_9 HL255_1 HL255_2 HL255_8 HL255_9 HL256_1 HL256_2 HL256_8 HL256_9 HB HO_5; have HO_24 := n0_; have HL252_0 := n1_; have HL253_1 := n2_; have HL253_2 := n3_; have HL253_8 := n4_; have HL253_9 := n5_; have HL254_1 := n6_; have HL254_2 := n7_; have HL254_8 := n8_; have HL254_9 := n9_; have HL255_1 := n10_; have HL255_2 := n11_; have HL255_8 := n12_; have HL255_9 := n13_; have HL256_1 := n14_; have HL256_2 := n15_; have HL256_8 := n16_; have HL256_9 := n17_; have HB := n18_; have HO259 := n19_; clear n0_ n1_ n2_ n3_ n4_ n5_ n6_ n7_ n8_ n9_ n10_ n11_ n12_ n13_ n14_ n15_ n16_ n17_ n18_ n19_; clear ho hb hg hat)))
                  go_roundg k2
                  case measure => have := HJ2.out; have := HK2.out; omega
                  case rel => exact ⟨(y257), ((rd_T38 (rd_L6 t249 x26_2) (ji30)).f1.f3), (wrap64 (x26_2 + 1)), (by first | rfl | (simp; done) | (simp only [← hji30] <;> (first | rfl | simp)) | (simp [*]; done)), (by first | rfl | (simp; done) | (simp [*]; done)), H', ⟨by have := HJ2.out; have := HK2.out; omega⟩, ⟨by (with_reducible repeat (first | apply Kd.N_alloc | apply Kd.N_drewN | apply Kd.N_drew)); exact HO259.out⟩, ⟨by (with_reducible repeat (first | apply Kd.N_alloc | apply Kd.N_drewN | apply Kd.N_drew)); exact Kd.N_mono HO_24.out (fun _ hk => hk.2)⟩, ⟨by repeat (first | (with_reducible first | exact HB.out | apply Ext.ba | apply Ext.bn | apply Ext.bd) | exact HB.out | exact .refl _ _)⟩⟩
                 · rw [if_neg c34] at H; exact absurd H (by simp)
                ·
                 rw [if_neg c33] at H
                 have c33b0 : (((rd_T38 (rd_L6 t249 x26_2) 0).f1.f3) == ((rd_T38 (rd_L6 t249 x26_2) (ji30)).f1.f3)) = false := beq_eq_false_iff_ne.mpr c33
                 have c33b1 : (((rd_T38 (rd_L6 t249 x26_2) 0).f1.f3) != ((rd_T38 (rd_L6 t249 x26_2) (ji30)).f1.f3)) = true := bne_iff_ne.mpr c33
                 obtain rfl := Option.some.inj H
                 have p252 : 0 ≤ (x26_2 : Int) := of_decide_eq_true (by first | (with_reducible assumption) | assumption)
                 have q252 : x26_2 < (t249.length : Int) := of_decide_eq_true (by first | (with_reducible assumption) | assumption)
                 obtain ⟨ad252, A252_0, c252_0, e252, hx252_0, hl252_0, hi252_0⟩ := at_L6 (Kd.N_reads' HO_24.out).2.2 x26_2 p252 q252
                 cases e252
                 obtain ⟨ce252, hce252, hMe252, hcc252⟩ := Kd.N_get HO_24.out [] x26_2 p252 (by first | exact q252 | exact of_decide_eq_true (by first | (with_reducible assumption) | assumption) | (have e_ := (Kd.N_reads' HO_24.out).1; omega))
                 obtain ⟨ua252_0, uc252_0, rfl, ul252_0, ge252_0⟩ := Kd.FK_slice_open hMe252
                 have hv252_0 := hcc252 0 _ rfl
                 rw [Nat.add_zero, show ((Kd.slice 38 k38)).sz = 1 from rfl, Nat.mul_one] at hv252_0
                 replace hv252_0 := Option.some.inj (hv252_0.symm.trans hx252_0)
                 injection hv252_0 with hva_ hvn_ hvc_
                 rw [hva_] at ge252_0
                 rw [hvc_] at ul252_0
                 have HL252_0 := Ext.a (show Kd.V k38 38 _ w.heap.size _ _ (rd_L6 t249 x26_2) from Kd.V_mk ul252_0 ge252_0)
                 clear hva_ hvn_ hvc_ ge252_0 ul252_0
                 clear hcc252 hce252
                 have HR252_0 := Aside0.mk hi252_0
                 have HC252_0 := Aside0.mk hl252_0
                 clear hi252_0 hl252_0
                 replace p252 := eq_true p252
                 replace q252 := eq_true q252
                 have p253 : 0 ≤ (0 : Int) := (by omega)
                 have q253 : 0 < ((rd_L6 t249 x26_2).length : Int) := of_decide_eq_true (by first | (with_reducible assumption) | assumption)
                 obtain ⟨ad253, A253_1, c253_1, A253_2, c253_2, A253_8, c253_8, A253_9, c253_9, e253, hx253_0, hx253_1, hx253_2, hx253_3, hx253_4, hx253_5, hx253_6, hx253_7, hx253_8, hx253_9, hx253_10, hx253_11, hx253_12, hx253_13, hl253_1, hi253_1, hl253_2, hi253_2, hl253_8, hi253_8, hl253_9, hi253_9⟩ := at_T38 (by repeat (first | (with_reducible exact HR252_0.out) | (with_reducible refine Kd.C_alloc ?_ _) | (with_reducible refine Kd.C_drewN ?_ _) | (with_reducible refine Kd.C_drew ?_) | exact HR252_0.out)) 0 p253 q253
                 cases e253
                 obtain ⟨ce253, hce253, hMe253, hcc253⟩ := Kd.V_get HL252_0.out z38 0 p253 (by first | exact q253 | exact of_decide_eq_true (by first | (with_reducible assumption) | assumption) | (have e_ := (Kd.V_reads' HL252_0.out).1; omega))
                 obtain ⟨ua253_1, uc253_1, ua253_2, uc253_2, ua253_8, uc253_8, ua253_9, uc253_9, rfl, ul253_1, ge253_1, ul253_2, ge253_2, ul253_8, ge253_8, ul253_9, ge253_9⟩ := k38_openF hMe253
                 have hv253_1 := hcc253 1 _ rfl
                 rw [add_field _ _ 1 (by omega)] at hv253_1
                 replace hv253_1 := Option.some.inj (hv253_1.symm.trans hx253_1)
                 injection hv253_1 with hva_ hvn_ hvc_
                 rw [hva_] at ge253_1
                 rw [hvc_] at ul253_1
                 have HL253_1 := Ext.a (show Kd.V (Kd.int .u8) 5 _ w.heap.size _ _ ((rd_T38 (rd_L6 t249 x26_2) 0).f1.f0) from Kd.V_mk ul253_1 ge253_1)
                 clear hva_ hvn_ hvc_ ge253_1 ul253_1
                 have hv253_2 := hcc253 2 _ rfl
                 rw [add_field _ _ 2 (by omega)] at hv253_2
                 replace hv253_2 := Option.some.inj (hv253_2.symm.trans hx253_2)
                 injection hv253_2 with hva_ hvn_ hvc_
                 rw [hva_] at ge253_2
                 rw [hvc_] at ul253_2
                 have HL253_2 := Ext.a (show Kd.V (Kd.int .u8) 5 _ w.heap.size _ _ ((rd_T38 (rd_L6 t249 x26_2) 0).f1.f1) from Kd.V_mk ul253_2 ge253_2)
                 clear hva_ hvn_ hvc_ ge253_2 ul253_2
                 have hv253_8 := hcc253 8 _ rfl
                 rw [add_field _ _ 8 (by omega)] at hv253_8
                 replace hv253_8 := Option.some.inj (hv253_8.symm.trans hx253_8)
                 injection hv253_8 with hva_ hvn_ hvc_
                 rw [hva_] at ge253_8
                 rw [hvc_] at ul253_8
                 have HL253_8 := Ext.a (show Kd.V (Kd.int .u8) 5 _ w.heap.size _ _ ((rd_T38 (rd_L6 t249 x26_2) 0).f3.f0) from Kd.V_mk ul253_8 ge253_8)
                 clear hva_ hvn_ hvc_ ge253_8 ul253_8
                 have hv253_9 := hcc253 9 _ rfl
                 rw [add_field _ _ 9 (by omega)] at hv253_9
                 replace hv253_9 := Option.some.inj (hv253_9.symm.trans hx253_9)
                 injection hv253_9 with hva_ hvn_ hvc_
                 rw [hva_] at ge253_9
                 rw [hvc_] at ul253_9
                 have HL253_9 := Ext.a (show Kd.V (Kd.int .u8) 5 _ w.heap.size _ _ ((rd_T38 (rd_L6 t249 x26_2) 0).f3.f1) from Kd.V_mk ul253_9 ge253_9)
                 clear hva_ hvn_ hvc_ ge253_9 ul253_9
                 clear hcc253 hce253
                 have qi253 : (0 < (rd_L6 t249 x26_2).length) = True := eq_true (by omega)
                 (try rw [show ((0 : Int)).toNat = 0 from rfl] at hx253_0)
                 (try rw [show 0 * 14 = 0 from rfl] at hx253_0)
                 (try rw [Addr.add_zero'] at hx253_0)
                 (try rw [show ((0 : Int)).toNat = 0 from rfl] at hx253_1)
                 (try rw [show 0 * 14 = 0 from rfl] at hx253_1)
                 (try rw [Addr.add_zero'] at hx253_1)
                 (try rw [show ((0 : Int)).toNat = 0 from rfl] at hx253_2)
                 (try rw [show 0 * 14 = 0 from rfl] at hx253_2)
                 (try rw [Addr.add_zero'] at hx253_2)
                 (try rw [show ((0 : Int)).toNat = 0 from rfl] at hx253_3)
                 (try rw [show 0 * 14 = 0 from rfl] at hx253_3)
                 (try rw [Addr.add_zero'] at hx253_3)
                 (try rw [show ((0 : Int)).toNat = 0 from rfl] at hx253_4)
                 (try rw [show 0 * 14 = 0 from rfl] at hx253_4)
                 (try rw [Addr.add_zero'] at hx253_4)
                 (try rw [show ((0 : Int)).toNat = 0 from rfl] at hx253_5)
                 (try rw [show 0 * 14 = 0 from rfl] at hx253_5)
                 (try rw [Addr.add_zero'] at hx253_5)
                 (try rw [show ((0 : Int)).toNat = 0 from rfl] at hx253_6)
                 (try rw [show 0 * 14 = 0 from rfl] at hx253_6)
                 (try rw [Addr.add_zero'] at hx253_6)
                 (try rw [show ((0 : Int)).toNat = 0 from rfl] at hx253_7)
                 (try rw [show 0 * 14 = 0 from rfl] at hx253_7)
                 (try rw [Addr.add_zero'] at hx253_7)
                 (try rw [show ((0 : Int)).toNat = 0 from rfl] at hx253_8)
                 (try rw [show 0 * 14 = 0 from rfl] at hx253_8)
                 (try rw [Addr.add_zero'] at hx253_8)
                 (try rw [show ((0 : Int)).toNat = 0 from rfl] at hx253_9)
                 (try rw [show 0 * 14 = 0 from rfl] at hx253_9)
                 (try rw [Addr.add_zero'] at hx253_9)
                 (try rw [show ((0 : Int)).toNat = 0 from rfl] at hx253_10)
                 (try rw [show 0 * 14 = 0 from rfl] at hx253_10)
                 (try rw [Addr.add_zero'] at hx253_10)
                 (try rw [show ((0 : Int)).toNat = 0 from rfl] at hx253_11)
                 (try rw [show 0 * 14 = 0 from rfl] at hx253_11)
                 (try rw [Addr.add_zero'] at hx253_11)
                 (try rw [show ((0 : Int)).toNat = 0 from rfl] at hx253_12)
                 (try rw [show 0 * 14 = 0 from rfl] at hx253_12)
                 (try rw [Addr.add_zero'] at hx253_12)
                 (try rw [show ((0 : Int)).toNat = 0 from rfl] at hx253_13)
                 (try rw [show 0 * 14 = 0 from rfl] at hx253_13)
                 (try rw [Addr.add_zero'] at hx253_13)
                 have HR253_1 := Aside0.mk hi253_1
                 have HC253_1 := Aside0.mk hl253_1
                 clear hi253_1 hl253_1
                 have HR253_2 := Aside0.mk hi253_2
                 have HC253_2 := Aside0.mk hl253_2
                 clear hi253_2 hl253_2
                 have HR253_8 := Aside0.mk hi253_8
                 have HC253_8 := Aside0.mk hl253_8
                 clear hi253_8 hl253_8
                 have HR253_9 := Aside0.mk hi253_9
                 have HC253_9 := Aside0.mk hl253_9
                 clear hi253_9 hl253_9
                 replace p253 := eq_true p253
                 replace q253 := eq_true q253
                 have p254 : 0 ≤ (0 : Int) := (by omega)
                 have q254 : 0 < ((rd_L6 t249 x26_2).length : Int) := of_decide_eq_true (by first | (with_reducible assumption) | assumption)
                 obtain ⟨ad254, A254_1, c254_1, A254_2, c254_2, A254_8, c254_8, A254_9, c254_9, e254, hx254_0, hx254_1, hx254_2, hx254_3, hx254_4, hx254_5, hx254_6, hx254_7, hx254_8, hx254_9, hx254_10, hx254_11, hx254_12, hx254_13, hl254_1, hi254_1, hl254_2, hi254_2, hl254_8, hi254_8, hl254_9, hi254_9⟩ := at_T38 (by repeat (first | (with_reducible exact HR252_0.out) | (with_reducible refine Kd.C_alloc ?_ _) | (with_reducible refine Kd.C_drewN ?_ _) | (with_reducible refine Kd.C_drew ?_) | exact HR252_0.out)) 0 p254 q254
                 obtain rfl : ad253 = ad254 := (by injection e254)
                 obtain ⟨ce254, hce254, hMe254, hcc254⟩ := Kd.V_get HL252_0.out z38 0 p254 (by first | exact q254 | exact of_decide_eq_true (by first | (with_reducible assumption) | assumption) | (have e_ := (Kd.V_reads' HL252_0.out).1; omega))
                 obtain ⟨ua254_1, uc254_1, ua254_2, uc254_2, ua254_8, uc254_8, ua254_9, uc254_9, rfl, ul254_1, ge254_1, ul254_2, ge254_2, ul254_8, ge254_8, ul254_9, ge254_9⟩ := k38_openF hMe254
                 have hv254_1 := hcc254 1 _ rfl
                 rw [add_field _ _ 1 (by omega)] at hv254_1
                 replace hv254_1 := Option.some.inj (hv254_1.symm.trans hx254_1)
                 injection hv254_1 with hva_ hvn_ hvc_
                 rw [hva_] at ge254_1
                 rw [hvc_] at ul254_1
                 have HL254_1 := Ext.a (show Kd.V (Kd.int .u8) 5 _ w.heap.size _ _ ((rd_T38 (rd_L6 t249 x26_2) 0).f1.f0) from Kd.V_mk ul254_1 ge254_1)
                 clear hva_ hvn_ hvc_ ge254_1 ul254_1
                 have hv254_2 := hcc254 2 _ rfl
                 rw [add_field _ _ 2 (by omega)] at hv254_2
                 replace hv254_2 := Option.some.inj (hv254_2.symm.trans hx254_2)
                 injection hv254_2 with hva_ hvn_ hvc_
                 rw [hva_] at ge254_2
                 rw [hvc_] at ul254_2
                 have HL254_2 := Ext.a (show Kd.V (Kd.int .u8) 5 _ w.heap.size _ _ ((rd_T38 (rd_L6 t249 x26_2) 0).f1.f1) from Kd.V_mk ul254_2 ge254_2)
                 clear hva_ hvn_ hvc_ ge254_2 ul254_2
                 have hv254_8 := hcc254 8 _ rfl
                 rw [add_field _ _ 8 (by omega)] at hv254_8
                 replace hv254_8 := Option.some.inj (hv254_8.symm.trans hx254_8)
                 injection hv254_8 with hva_ hvn_ hvc_
                 rw [hva_] at ge254_8
                 rw [hvc_] at ul254_8
                 have HL254_8 := Ext.a (show Kd.V (Kd.int .u8) 5 _ w.heap.size _ _ ((rd_T38 (rd_L6 t249 x26_2) 0).f3.f0) from Kd.V_mk ul254_8 ge254_8)
                 clear hva_ hvn_ hvc_ ge254_8 ul254_8
                 have hv254_9 := hcc254 9 _ rfl
                 rw [add_field _ _ 9 (by omega)] at hv254_9
                 replace hv254_9 := Option.some.inj (hv254_9.symm.trans hx254_9)
                 injection hv254_9 with hva_ hvn_ hvc_
                 rw [hva_] at ge254_9
                 rw [hvc_] at ul254_9
                 have HL254_9 := Ext.a (show Kd.V (Kd.int .u8) 5 _ w.heap.size _ _ ((rd_T38 (rd_L6 t249 x26_2) 0).f3.f1) from Kd.V_mk ul254_9 ge254_9)
                 clear hva_ hvn_ hvc_ ge254_9 ul254_9
                 clear hcc254 hce254
                 have qi254 : (0 < (rd_L6 t249 x26_2).length) = True := eq_true (by omega)
                 (try rw [show ((0 : Int)).toNat = 0 from rfl] at hx254_0)
                 (try rw [show 0 * 14 = 0 from rfl] at hx254_0)
                 (try rw [Addr.add_zero'] at hx254_0)
                 (try rw [show ((0 : Int)).toNat = 0 from rfl] at hx254_1)
                 (try rw [show 0 * 14 = 0 from rfl] at hx254_1)
                 (try rw [Addr.add_zero'] at hx254_1)
                 (try rw [show ((0 : Int)).toNat = 0 from rfl] at hx254_2)
                 (try rw [show 0 * 14 = 0 from rfl] at hx254_2)
                 (try rw [Addr.add_zero'] at hx254_2)
                 (try rw [show ((0 : Int)).toNat = 0 from rfl] at hx254_3)
                 (try rw [show 0 * 14 = 0 from rfl] at hx254_3)
                 (try rw [Addr.add_zero'] at hx254_3)
                 (try rw [show ((0 : Int)).toNat = 0 from rfl] at hx254_4)
                 (try rw [show 0 * 14 = 0 from rfl] at hx254_4)
                 (try rw [Addr.add_zero'] at hx254_4)
                 (try rw [show ((0 : Int)).toNat = 0 from rfl] at hx254_5)
                 (try rw [show 0 * 14 = 0 from rfl] at hx254_5)
                 (try rw [Addr.add_zero'] at hx254_5)
                 (try rw [show ((0 : Int)).toNat = 0 from rfl] at hx254_6)
                 (try rw [show 0 * 14 = 0 from rfl] at hx254_6)
                 (try rw [Addr.add_zero'] at hx254_6)
                 (try rw [show ((0 : Int)).toNat = 0 from rfl] at hx254_7)
                 (try rw [show 0 * 14 = 0 from rfl] at hx254_7)
                 (try rw [Addr.add_zero'] at hx254_7)
                 (try rw [show ((0 : Int)).toNat = 0 from rfl] at hx254_8)
                 (try rw [show 0 * 14 = 0 from rfl] at hx254_8)
                 (try rw [Addr.add_zero'] at hx254_8)
                 (try rw [show ((0 : Int)).toNat = 0 from rfl] at hx254_9)
                 (try rw [show 0 * 14 = 0 from rfl] at hx254_9)
                 (try rw [Addr.add_zero'] at hx254_9)
                 (try rw [show ((0 : Int)).toNat = 0 from rfl] at hx254_10)
                 (try rw [show 0 * 14 = 0 from rfl] at hx254_10)
                 (try rw [Addr.add_zero'] at hx254_10)
                 (try rw [show ((0 : Int)).toNat = 0 from rfl] at hx254_11)
                 (try rw [show 0 * 14 = 0 from rfl] at hx254_11)
                 (try rw [Addr.add_zero'] at hx254_11)
                 (try rw [show ((0 : Int)).toNat = 0 from rfl] at hx254_12)
                 (try rw [show 0 * 14 = 0 from rfl] at hx254_12)
                 (try rw [Addr.add_zero'] at hx254_12)
                 (try rw [show ((0 : Int)).toNat = 0 from rfl] at hx254_13)
                 (try rw [show 0 * 14 = 0 from rfl] at hx254_13)
                 (try rw [Addr.add_zero'] at hx254_13)
                 have HR254_1 := Aside0.mk hi254_1
                 have HC254_1 := Aside0.mk hl254_1
                 clear hi254_1 hl254_1
                 have HR254_2 := Aside0.mk hi254_2
                 have HC254_2 := Aside0.mk hl254_2
                 clear hi254_2 hl254_2
                 have HR254_8 := Aside0.mk hi254_8
                 have HC254_8 := Aside0.mk hl254_8
                 clear hi254_8 hl254_8
                 have HR254_9 := Aside0.mk hi254_9
                 have HC254_9 := Aside0.mk hl254_9
                 clear hi254_9 hl254_9
                 replace p254 := eq_true p254
                 replace q254 := eq_true q254
                 have ea_ := Option.some.inj (hx253_1.symm.trans hx254_1)
                 injection ea_ with ea_ en_ ec_
                 subst ea_
                 subst ec_
                 clear en_
                 have ea_ := Option.some.inj (hx253_2.symm.trans hx254_2)
                 injection ea_ with ea_ en_ ec_
                 subst ea_
                 subst ec_
                 clear en_
                 have ea_ := Option.some.inj (hx253_8.symm.trans hx254_8)
                 injection ea_ with ea_ en_ ec_
                 subst ea_
                 subst ec_
                 clear en_
                 have ea_ := Option.some.inj (hx253_9.symm.trans hx254_9)
                 injection ea_ with ea_ en_ ec_
                 subst ea_
                 subst ec_
                 clear en_
                 have p255 : 0 ≤ ((ji30) : Int) := of_decide_eq_true (by first | (with_reducible assumption) | assumption)
                 have q255 : (ji30) < ((rd_L6 t249 x26_2).length : Int) := of_decide_eq_true (by first | (with_reducible assumption) | assumption)
                 obtain ⟨ad255, A255_1, c255_1, A255_2, c255_2, A255_8, c255_8, A255_9, c255_9, e255, hx255_0, hx255_1, hx255_2, hx255_3, hx255_4, hx255_5, hx255_6, hx255_7, hx255_8, hx255_9, hx255_10, hx255_11, hx255_12, hx255_13, hl255_1, hi255_1, hl255_2, hi255_2, hl255_8, hi255_8, hl255_9, hi255_9⟩ := at_T38 (by repeat (first | (with_reducible exact HR252_0.out) | (with_reducible refine Kd.C_alloc ?_ _) | (with_reducible refine Kd.C_drewN ?_ _) | (with_reducible refine Kd.C_drew ?_) | exact HR252_0.out)) (ji30) p255 q255
                 obtain rfl : ad253 = ad255 := (by injection e255)
                 obtain ⟨ce255, hce255, hMe255, hcc255⟩ := Kd.V_get HL252_0.out z38 (ji30) p255 (by first | exact q255 | exact of_decide_eq_true (by first | (with_reducible assumption) | assumption) | (have e_ := (Kd.V_reads' HL252_0.out).1; omega))
                 obtain ⟨ua255_1, uc255_1, ua255_2, uc255_2, ua255_8, uc255_8, ua255_9, uc255_9, rfl, ul255_1, ge255_1, ul255_2, ge255_2, ul255_8, ge255_8, ul255_9, ge255_9⟩ := k38_openF hMe255
                 have hv255_1 := hcc255 1 _ rfl
                 rw [add_field _ _ 1 (by omega)] at hv255_1
                 replace hv255_1 := Option.some.inj (hv255_1.symm.trans hx255_1)
                 injection hv255_1 with hva_ hvn_ hvc_
                 rw [hva_] at ge255_1
                 rw [hvc_] at ul255_1
                 have HL255_1 := Ext.a (show Kd.V (Kd.int .u8) 5 _ w.heap.size _ _ ((rd_T38 (rd_L6 t249 x26_2) (ji30)).f1.f0) from Kd.V_mk ul255_1 ge255_1)
                 clear hva_ hvn_ hvc_ ge255_1 ul255_1
                 have hv255_2 := hcc255 2 _ rfl
                 rw [add_field _ _ 2 (by omega)] at hv255_2
                 replace hv255_2 := Option.some.inj (hv255_2.symm.trans hx255_2)
                 injection hv255_2 with hva_ hvn_ hvc_
                 rw [hva_] at ge255_2
                 rw [hvc_] at ul255_2
                 have HL255_2 := Ext.a (show Kd.V (Kd.int .u8) 5 _ w.heap.size _ _ ((rd_T38 (rd_L6 t249 x26_2) (ji30)).f1.f1) from Kd.V_mk ul255_2 ge255_2)
                 clear hva_ hvn_ hvc_ ge255_2 ul255_2
                 have hv255_8 := hcc255 8 _ rfl
                 rw [add_field _ _ 8 (by omega)] at hv255_8
                 replace hv255_8 := Option.some.inj (hv255_8.symm.trans hx255_8)
                 injection hv255_8 with hva_ hvn_ hvc_
                 rw [hva_] at ge255_8
                 rw [hvc_] at ul255_8
                 have HL255_8 := Ext.a (show Kd.V (Kd.int .u8) 5 _ w.heap.size _ _ ((rd_T38 (rd_L6 t249 x26_2) (ji30)).f3.f0) from Kd.V_mk ul255_8 ge255_8)
                 clear hva_ hvn_ hvc_ ge255_8 ul255_8
                 have hv255_9 := hcc255 9 _ rfl
                 rw [add_field _ _ 9 (by omega)] at hv255_9
                 replace hv255_9 := Option.some.inj (hv255_9.symm.trans hx255_9)
                 injection hv255_9 with hva_ hvn_ hvc_
                 rw [hva_] at ge255_9
                 rw [hvc_] at ul255_9
                 have HL255_9 := Ext.a (show Kd.V (Kd.int .u8) 5 _ w.heap.size _ _ ((rd_T38 (rd_L6 t249 x26_2) (ji30)).f3.f1) from Kd.V_mk ul255_9 ge255_9)
                 clear hva_ hvn_ hvc_ ge255_9 ul255_9
                 clear hcc255 hce255
                 have HR255_1 := Aside0.mk hi255_1
                 have HC255_1 := Aside0.mk hl255_1
                 clear hi255_1 hl255_1
                 have HR255_2 := Aside0.mk hi255_2
                 have HC255_2 := Aside0.mk hl255_2
                 clear hi255_2 hl255_2
                 have HR255_8 := Aside0.mk hi255_8
                 have HC255_8 := Aside0.mk hl255_8
                 clear hi255_8 hl255_8
                 have HR255_9 := Aside0.mk hi255_9
                 have HC255_9 := Aside0.mk hl255_9
                 clear hi255_9 hl255_9
                 replace p255 := eq_true p255
                 replace q255 := eq_true q255
                 go_wp2
                 repeat (go_quiet (fail); try go_wp2)
                 go_ret
                 exact ⟨by first | rfl | (simp [errW_none, errW_some] <;> rfl) | (simp only [← hji28, ← hji30]; first | rfl | (simp [errW_none, errW_some] <;> rfl)) | (simp [*, errW_none, errW_some] <;> rfl), by repeat (first | (with_reducible first | exact HB.out | apply Ext.ba | apply Ext.bn | apply Ext.bd) | exact HB.out | exact .refl _ _)⟩
               · rw [if_neg c32] at H; exact absurd H (by simp)
              · rw [if_neg c31] at H; exact absurd H (by simp)
             ·
              rw [if_neg c29] at H
              have c29b0 : decide ((ji28) < ((rd_L6 t249 x26_2).length : Int)) = false := decide_eq_false c29
              clear c29
              obtain ⟨ji36, hji36⟩ : ∃ j_ : Int, (wrap64 (((rd_L6 t249 x26_2).length : Int) - 1)) = j_ := ⟨_, rfl⟩
              replace H : (if 0 ≤ (ji36) then (if (ji36) < ((rd_L6 t249 x26_2).length : Int) then (if x5_2.length + (rd_L6 t249 x26_2).length < 799644820200 then (terrierlaw17_BatchWhole.l0 k2 l0 a1 (x5_2 ++ (rd_L6 t249 x26_2)) ((rd_T38 (rd_L6 t249 x26_2) (ji36)).f1.f3) t249 (t249.length : Int) (wrap64 (x26_2 + 1))) else (none)) else (none)) else (none)) = some r := by first | (rw [hji36] at H; exact H) | (simp only [hji36] at H ⊢; exact H)
              have hji36w : (IntKind.i64.wrap (((rd_L6 t249 x26_2).length : Int) - 1)) = ji36 := (i64_w _).trans hji36
              by_cases c37 : 0 ≤ (ji36)
              ·
               rw [if_pos c37] at H
               have c37b0 : decide (0 ≤ (ji36)) = true := decide_eq_true c37
               clear c37
               by_cases c38 : (ji36) < ((rd_L6 t249 x26_2).length : Int)
               ·
                rw [if_pos c38] at H
                have c38b0 : decide ((ji36) < ((rd_L6 t249 x26_2).length : Int)) = true := decide_eq_true c38
                clear c38
                by_cases c39 : x5_2.length + (rd_L6 t249 x26_2).length < 799644820200
                ·
                 rw [if_pos c39] at H
                 have LMc39 := Aside0.mk c39
                 clear c39
                 obtain ⟨y261, hy261⟩ : ∃ y_ : List (S38), y_ = (x5_2 ++ (rd_L6 t249 x26_2)) := ⟨_, rfl⟩
                 replace H : (terrierlaw17_BatchWhole.l0 k2 l0 a1 y261 ((rd_T38 (rd_L6 t249 x26_2) (ji36)).f1.f3) t249 (t249.length : Int) (wrap64 (x26_2 + 1))) = some r := by first | (rw [hy261]; with_reducible exact H) | (have H2_ := (Option.bind_some _ _).symm.trans H; rw [hy261]; with_reducible exact H2_) | (have H2_ := (Option.bind_some _ _).symm.trans H; with_reducible exact H2_) | with_reducible exact H | (rw [hy261]; exact H) | exact H
                 have Ny261 := Aside0.mk hy261
                 clear hy261
                 have H' := Aside0.mk H
                 clear H
                 have p252 : 0 ≤ (x26_2 : Int) := of_decide_eq_true (by first | (with_reducible assumption) | assumption)
                 have q252 : x26_2 < (t249.length : Int) := of_decide_eq_true (by first | (with_reducible assumption) | assumption)
                 obtain ⟨ad252, A252_0, c252_0, e252, hx252_0, hl252_0, hi252_0⟩ := at_L6 (Kd.N_reads' HO_24.out).2.2 x26_2 p252 q252
                 cases e252
                 obtain ⟨ce252, hce252, hMe252, hcc252⟩ := Kd.N_get HO_24.out [] x26_2 p252 (by first | exact q252 | exact of_decide_eq_true (by first | (with_reducible assumption) | assumption) | (have e_ := (Kd.N_reads' HO_24.out).1; omega))
                 obtain ⟨ua252_0, uc252_0, rfl, ul252_0, ge252_0⟩ := Kd.FK_slice_open hMe252
                 have hv252_0 := hcc252 0 _ rfl
                 rw [Nat.add_zero, show ((Kd.slice 38 k38)).sz = 1 from rfl, Nat.mul_one] at hv252_0
                 replace hv252_0 := Option.some.inj (hv252_0.symm.trans hx252_0)
                 injection hv252_0 with hva_ hvn_ hvc_
                 rw [hva_] at ge252_0
                 rw [hvc_] at ul252_0
                 have HL252_0 := Ext.a (show Kd.V k38 38 _ w.heap.size _ _ (rd_L6 t249 x26_2) from Kd.V_mk ul252_0 ge252_0)
                 clear hva_ hvn_ hvc_ ge252_0 ul252_0
                 clear hcc252 hce252
                 have HR252_0 := Aside0.mk hi252_0
                 have HC252_0 := Aside0.mk hl252_0
                 clear hi252_0 hl252_0
                 replace p252 := eq_true p252
                 replace q252 := eq_true q252
                 have p253 : 0 ≤ (0 : Int) := (by omega)
                 have q253 : 0 < ((rd_L6 t249 x26_2).length : Int) := of_decide_eq_true (by first | (with_reducible assumption) | assumption)
                 obtain ⟨ad253, A253_1, c253_1, A253_2, c253_2, A253_8, c253_8, A253_9, c253_9, e253, hx253_0, hx253_1, hx253_2, hx253_3, hx253_4, hx253_5, hx253_6, hx253_7, hx253_8, hx253_9, hx253_10, hx253_11, hx253_12, hx253_13, hl253_1, hi253_1, hl253_2, hi253_2, hl253_8, hi253_8, hl253_9, hi253_9⟩ := at_T38 (by repeat (first | (with_reducible exact HR252_0.out) | (with_reducible refine Kd.C_alloc ?_ _) | (with_reducible refine Kd.C_drewN ?_ _) | (with_reducible refine Kd.C_drew ?_) | exact HR252_0.out)) 0 p253 q253
                 cases e253
                 obtain ⟨ce253, hce253, hMe253, hcc253⟩ := Kd.V_get HL252_0.out z38 0 p253 (by first | exact q253 | exact of_decide_eq_true (by first | (with_reducible assumption) | assumption) | (have e_ := (Kd.V_reads' HL252_0.out).1; omega))
                 obtain ⟨ua253_1, uc253_1, ua253_2, uc253_2, ua253_8, uc253_8, ua253_9, uc253_9, rfl, ul253_1, ge253_1, ul253_2, ge253_2, ul253_8, ge253_8, ul253_9, ge253_9⟩ := k38_openF hMe253
                 have hv253_1 := hcc253 1 _ rfl
                 rw [add_field _ _ 1 (by omega)] at hv253_1
                 replace hv253_1 := Option.some.inj (hv253_1.symm.trans hx253_1)
                 injection hv253_1 with hva_ hvn_ hvc_
                 rw [hva_] at ge253_1
                 rw [hvc_] at ul253_1
                 have HL253_1 := Ext.a (show Kd.V (Kd.int .u8) 5 _ w.heap.size _ _ ((rd_T38 (rd_L6 t249 x26_2) 0).f1.f0) from Kd.V_mk ul253_1 ge253_1)
                 clear hva_ hvn_ hvc_ ge253_1 ul253_1
                 have hv253_2 := hcc253 2 _ rfl
                 rw [add_field _ _ 2 (by omega)] at hv253_2
                 replace hv253_2 := Option.some.inj (hv253_2.symm.trans hx253_2)
                 injection hv253_2 with hva_ hvn_ hvc_
                 rw [hva_] at ge253_2
                 rw [hvc_] at ul253_2
                 have HL253_2 := Ext.a (show Kd.V (Kd.int .u8) 5 _ w.heap.size _ _ ((rd_T38 (rd_L6 t249 x26_2) 0).f1.f1) from Kd.V_mk ul253_2 ge253_2)
                 clear hva_ hvn_ hvc_ ge253_2 ul253_2
                 have hv253_8 := hcc253 8 _ rfl
                 rw [add_field _ _ 8 (by omega)] at hv253_8
                 replace hv253_8 := Option.some.inj (hv253_8.symm.trans hx253_8)
                 injection hv253_8 with hva_ hvn_ hvc_
                 rw [hva_] at ge253_8
                 rw [hvc_] at ul253_8
                 have HL253_8 := Ext.a (show Kd.V (Kd.int .u8) 5 _ w.heap.size _ _ ((rd_T38 (rd_L6 t249 x26_2) 0).f3.f0) from Kd.V_mk ul253_8 ge253_8)
                 clear hva_ hvn_ hvc_ ge253_8 ul253_8
                 have hv253_9 := hcc253 9 _ rfl
                 rw [add_field _ _ 9 (by omega)] at hv253_9
                 replace hv253_9 := Option.some.inj (hv253_9.symm.trans hx253_9)
                 injection hv253_9 with hva_ hvn_ hvc_
                 rw [hva_] at ge253_9
                 rw [hvc_] at ul253_9
                 have HL253_9 := Ext.a (show Kd.V (Kd.int .u8) 5 _ w.heap.size _ _ ((rd_T38 (rd_L6 t249 x26_2) 0).f3.f1) from Kd.V_mk ul253_9 ge253_9)
                 clear hva_ hvn_ hvc_ ge253_9 ul253_9
                 clear hcc253 hce253
                 have qi253 : (0 < (rd_L6 t249 x26_2).length) = True := eq_true (by omega)
                 (try rw [show ((0 : Int)).toNat = 0 from rfl] at hx253_0)
                 (try rw [show 0 * 14 = 0 from rfl] at hx253_0)
                 (try rw [Addr.add_zero'] at hx253_0)
                 (try rw [show ((0 : Int)).toNat = 0 from rfl] at hx253_1)
                 (try rw [show 0 * 14 = 0 from rfl] at hx253_1)
                 (try rw [Addr.add_zero'] at hx253_1)
                 (try rw [show ((0 : Int)).toNat = 0 from rfl] at hx253_2)
                 (try rw [show 0 * 14 = 0 from rfl] at hx253_2)
                 (try rw [Addr.add_zero'] at hx253_2)
                 (try rw [show ((0 : Int)).toNat = 0 from rfl] at hx253_3)
                 (try rw [show 0 * 14 = 0 from rfl] at hx253_3)
                 (try rw [Addr.add_zero'] at hx253_3)
                 (try rw [show ((0 : Int)).toNat = 0 from rfl] at hx253_4)
                 (try rw [show 0 * 14 = 0 from rfl] at hx253_4)
                 (try rw [Addr.add_zero'] at hx253_4)
                 (try rw [show ((0 : Int)).toNat = 0 from rfl] at hx253_5)
                 (try rw [show 0 * 14 = 0 from rfl] at hx253_5)
                 (try rw [Addr.add_zero'] at hx253_5)
                 (try rw [show ((0 : Int)).toNat = 0 from rfl] at hx253_6)
                 (try rw [show 0 * 14 = 0 from rfl] at hx253_6)
                 (try rw [Addr.add_zero'] at hx253_6)
                 (try rw [show ((0 : Int)).toNat = 0 from rfl] at hx253_7)
                 (try rw [show 0 * 14 = 0 from rfl] at hx253_7)
                 (try rw [Addr.add_zero'] at hx253_7)
                 (try rw [show ((0 : Int)).toNat = 0 from rfl] at hx253_8)
                 (try rw [show 0 * 14 = 0 from rfl] at hx253_8)
                 (try rw [Addr.add_zero'] at hx253_8)
                 (try rw [show ((0 : Int)).toNat = 0 from rfl] at hx253_9)
                 (try rw [show 0 * 14 = 0 from rfl] at hx253_9)
                 (try rw [Addr.add_zero'] at hx253_9)
                 (try rw [show ((0 : Int)).toNat = 0 from rfl] at hx253_10)
                 (try rw [show 0 * 14 = 0 from rfl] at hx253_10)
                 (try rw [Addr.add_zero'] at hx253_10)
                 (try rw [show ((0 : Int)).toNat = 0 from rfl] at hx253_11)
                 (try rw [show 0 * 14 = 0 from rfl] at hx253_11)
                 (try rw [Addr.add_zero'] at hx253_11)
                 (try rw [show ((0 : Int)).toNat = 0 from rfl] at hx253_12)
                 (try rw [show 0 * 14 = 0 from rfl] at hx253_12)
                 (try rw [Addr.add_zero'] at hx253_12)
                 (try rw [show ((0 : Int)).toNat = 0 from rfl] at hx253_13)
                 (try rw [show 0 * 14 = 0 from rfl] at hx253_13)
                 (try rw [Addr.add_zero'] at hx253_13)
                 have HR253_1 := Aside0.mk hi253_1
                 have HC253_1 := Aside0.mk hl253_1
                 clear hi253_1 hl253_1
                 have HR253_2 := Aside0.mk hi253_2
                 have HC253_2 := Aside0.mk hl253_2
                 clear hi253_2 hl253_2
                 have HR253_8 := Aside0.mk hi253_8
                 have HC253_8 := Aside0.mk hl253_8
                 clear hi253_8 hl253_8
                 have HR253_9 := Aside0.mk hi253_9
                 have HC253_9 := Aside0.mk hl253_9
                 clear hi253_9 hl253_9
                 replace p253 := eq_true p253
                 replace q253 := eq_true q253
                 have p260 : 0 ≤ ((ji36) : Int) := of_decide_eq_true (by first | (with_reducible assumption) | assumption)
                 have q260 : (ji36) < ((rd_L6 t249 x26_2).length : Int) := of_decide_eq_true (by first | (with_reducible assumption) | assumption)
                 obtain ⟨ad260, A260_1, c260_1, A260_2, c260_2, A260_8, c260_8, A260_9, c260_9, e260, hx260_0, hx260_1, hx260_2, hx260_3, hx260_4, hx260_5, hx260_6, hx260_7, hx260_8, hx260_9, hx260_10, hx260_11, hx260_12, hx260_13, hl260_1, hi260_1, hl260_2, hi260_2, hl260_8, hi260_8, hl260_9, hi260_9⟩ := at_T38 (by repeat (first | (with_reducible exact HR252_0.out) | (with_reducible refine Kd.C_alloc ?_ _) | (with_reducible refine Kd.C_drewN ?_ _) | (with_reducible refine Kd.C_drew ?_) | exact HR252_0.out)) (ji36) p260 q260
                 obtain rfl : ad253 = ad260 := (by injection e260)
                 obtain ⟨ce260, hce260, hMe260, hcc260⟩ := Kd.V_get HL252_0.out z38 (ji36) p260 (by first | exact q260 | exact of_decide_eq_true (by first | (with_reducible assumption) | assumption) | (have e_ := (Kd.V_reads' HL252_0.out).1; omega))
                 obtain ⟨ua260_1, uc260_1, ua260_2, uc260_2, ua260_8, uc260_8, ua260_9, uc260_9, rfl, ul260_1, ge260_1, ul260_2, ge260_2, ul260_8, ge260_8, ul260_9, ge260_9⟩ := k38_openF hMe260
                 have hv260_1 := hcc260 1 _ rfl
                 rw [add_field _ _ 1 (by omega)] at hv260_1
                 replace hv260_1 := Option.some.inj (hv260_1.symm.trans hx260_1)
                 injection hv260_1 with hva_ hvn_ hvc_
                 rw [hva_] at ge260_1
                 rw [hvc_] at ul260_1
                 have HL260_1 := Ext.a (show Kd.V (Kd.int .u8) 5 _ w.heap.size _ _ ((rd_T38 (rd_L6 t249 x26_2) (ji36)).f1.f0) from Kd.V_mk ul260_1 ge260_1)
                 clear hva_ hvn_ hvc_ ge260_1 ul260_1
                 have hv260_2 := hcc260 2 _ rfl
                 rw [add_field _ _ 2 (by omega)] at hv260_2
                 replace hv260_2 := Option.some.inj (hv260_2.symm.trans hx260_2)
                 injection hv260_2 with hva_ hvn_ hvc_
                 rw [hva_] at ge260_2
                 rw [hvc_] at ul260_2
                 have HL260_2 := Ext.a (show Kd.V (Kd.int .u8) 5 _ w.heap.size _ _ ((rd_T38 (rd_L6 t249 x26_2) (ji36)).f1.f1) from Kd.V_mk ul260_2 ge260_2)
                 clear hva_ hvn_ hvc_ ge260_2 ul260_2
                 have hv260_8 := hcc260 8 _ rfl
                 rw [add_field _ _ 8 (by omega)] at hv260_8
                 replace hv260_8 := Option.some.inj (hv260_8.symm.trans hx260_8)
                 injection hv260_8 with hva_ hvn_ hvc_
                 rw [hva_] at ge260_8
                 rw [hvc_] at ul260_8
                 have HL260_8 := Ext.a (show Kd.V (Kd.int .u8) 5 _ w.heap.size _ _ ((rd_T38 (rd_L6 t249 x26_2) (ji36)).f3.f0) from Kd.V_mk ul260_8 ge260_8)
                 clear hva_ hvn_ hvc_ ge260_8 ul260_8
                 have hv260_9 := hcc260 9 _ rfl
                 rw [add_field _ _ 9 (by omega)] at hv260_9
                 replace hv260_9 := Option.some.inj (hv260_9.symm.trans hx260_9)
                 injection hv260_9 with hva_ hvn_ hvc_
                 rw [hva_] at ge260_9
                 rw [hvc_] at ul260_9
                 have HL260_9 := Ext.a (show Kd.V (Kd.int .u8) 5 _ w.heap.size _ _ ((rd_T38 (rd_L6 t249 x26_2) (ji36)).f3.f1) from Kd.V_mk ul260_9 ge260_9)
                 clear hva_ hvn_ hvc_ ge260_9 ul260_9
                 clear hcc260 hce260
                 have HR260_1 := Aside0.mk hi260_1
                 have HC260_1 := Aside0.mk hl260_1
                 clear hi260_1 hl260_1
                 have HR260_2 := Aside0.mk hi260_2
                 have HC260_2 := Aside0.mk hl260_2
                 clear hi260_2 hl260_2
                 have HR260_8 := Aside0.mk hi260_8
                 have HC260_8 := Aside0.mk hl260_8
                 clear hi260_8 hl260_8
                 have HR260_9 := Aside0.mk hi260_9
                 have HC260_9 := Aside0.mk hl260_9
                 clear hi260_9 hl260_9
                 replace p260 := eq_true p260
                 replace q260 := eq_true q260
                 go_wp2_with (first | ((with_reducible refine gate_builtin (b := .append) (xs := #[.tmp 78, .tmp 79]) rfl ?_); (try (refine gate_guard (by rfl) ?_; dsimp only)); at_builtin; refine Kd.N_append_rows k38 (w0 := w) w.heap.size rfl (.tmp 78) (.tmp 79) 22 38 (.agg #[(.int .i64 0), (.slice none 0 0), (.slice none 0 0), (.int .i64 0), (.int .i64 0), (.int .i64 0), (.int .i64 0), (.bool false), (.slice none 0 0), (.slice none 0 0), (.int .i64 0), (.int .i64 0), (.int .i64 0), (.int .i64 0)]) 176 rfl Try.underlying22 info38 rfl (by decide) (by omega) u5 x5_2 (rd_L6 t249 x26_2) _ _ _ (fun k_ => some k_ ≠ (.slice (some ad252) t249.length co20 : Value).ownBlock) (fun k_ => ((fun k_ => some k_ ≠ (.slice (some ad252) t249.length co20 : Value).ownBlock)) k_ ∧ some k_ ≠ (u5 : Value).ownBlock) rfl rfl ?aO ?aR (fun _ hk => hk) ?aF ?aB ?aS ?aL ?_; (case aR => exact (by skip; exact Kd.V_F (Kd.V_mono (ok' := (fun k_ => ((fun k_ => some k_ ≠ (.slice (some ad252) t249.length co20 : Value).ownBlock)) k_ ∧ some k_ ≠ (u5 : Value).ownBlock)) (Ext.nV HL252_0.out) (fun k_ hk => ⟨hk.2, hk.1⟩)))); (case aB => exact (Ext.nB HB.out)); (case aF => exact (fun k_ hk => Kd.fresh' (Kd.N_lt (Ext.nN HO_24.out)) k_ hk)); (case aO => exact (Ext.nN HO_5.out)); (case aS => exact (below_size (Ext.nB HB.out))); (case aL => have := LMc39.out; omega); intro v262 w40 ho hb hg hat; rw [← Ny261.out] at ho; have n0_ := Ext.a (Kd.N_afterv (ok := (fun _ => True)) (Ext.nN (Kd.N_mono HO_24.out (fun _ hk => ⟨trivial, hk⟩))) hg hat); have n1_ := Ext.a (Kd.V_afterv (ok := (fun k_ => some k_ ≠ (.slice (some ad252) t249.length co20 : Value).ownBlock)) (Ext.nV (Kd.V_mono HL252_0.out (fun _ hk => ⟨hk.2, hk.1⟩))) hg hat); have n2_ := Ext.a (Kd.V_afterv (ok := (fun k_ => some k_ ≠ (.slice (some ad252) t249.length co20 : Value).ownBlock)) (Ext.nV (Kd.V_mono HL253_1.out (fun _ hk => ⟨hk.2, hk.1⟩))) hg hat); have n3_ := Ext.a (Kd.V_afterv (ok := (fun k_ => some k_ ≠ (.slice (some ad252) t249.length co20 : Value).ownBlock)) (Ext.nV (Kd.V_mono HL253_2.out (fun _ hk => ⟨hk.2, hk.1⟩))) hg hat); have n4_ := Ext.a (Kd.V_afterv (ok := (fun k_ => some k_ ≠ (.slice (some ad252) t249.length co20 : Value).ownBlock)) (Ext.nV (Kd.V_mono HL253_8.out (fun _ hk => ⟨hk.2, hk.1⟩))) hg hat); have n5_ := Ext.a (Kd.V_afterv (ok := (fun k_ => some k_ ≠ (.slice (some ad252) t249.length co20 : Value).ownBlock)) (Ext.nV (Kd.V_mono HL253_9.out (fun _ hk => ⟨hk.2, hk.1⟩))) hg hat); have n6_ := Ext.a (Kd.V_afterv (ok := (fun k_ => some k_ ≠ (.slice (some ad252) t249.length co20 : Value).ownBlock)) (Ext.nV (Kd.V_mono HL260_1.out (fun _ hk => ⟨hk.2, hk.1⟩))) hg hat); have n7_ := Ext.a (Kd.V_afterv (ok := (fun k_ => some k_ ≠ (.slice (some ad252) t249.length co20 : Value).ownBlock)) (Ext.nV (Kd.V_mono HL260_2.out (fun _ hk => ⟨hk.2, hk.1⟩))) hg hat); have n8_ := Ext.a (Kd.V_afterv (ok := (fun k_ => some k_ ≠ (.slice (some ad252) t249.length co20 : Value).ownBlock)) (Ext.nV (Kd.V_mono HL260_8.out (fun _ hk => ⟨hk.2, hk.1⟩))) hg hat); have n9_ := Ext.a (Kd.V_afterv (ok := (fun k_ => some k_ ≠ (.slice (some ad252) t249.length co20 : Value).ownBlock)) (Ext.nV (Kd.V_mono HL260_9.out (fun _ hk => ⟨hk.2, hk.1⟩))) hg hat); have n10_ := Ext.a (hb); have n11_ := Ext.a (ho); clear HO_24 HL252_0 HL253_1 HL253_2 HL253_8 HL253_9 HL260_1 HL260_2 HL260_8 HL260_9 HB HO_5; have HO_24 := n0_; have HL252_0 := n1_; have HL253_1 := n2_; have HL253_2 := n3_; have HL253_8 := n4_; have HL253_9 := n5_; have HL260_1 := n6_; have HL260_2 := n7_; have HL260_8 := n8_; have HL260_9 := n9_; have HB := n10_; have HO263 := n11_; clear n0_ n1_ n2_ n3_ n4_ n5_ n6_ n7_ n8_ n9_ n10_ n11_; clear ho hb hg hat))
                 repeat (go_quiet (first | ((with_reducible refine gate_builtin (b := .append) (xs := #[.tmp 78, .tmp 79]) rfl ?_); (try (refine gate_guard (by rfl) ?_; dsimp only)); at_builtin; refine Kd.N_append_rows k38 (w0 := w) w.heap.size rfl (.tmp 78) (.tmp 79) 22 38 (.agg #[(.int .i64 0), (.slice none 0 0), (.slice none 0 0), (.int .i64 0), (.int .i64 0), (.int .i64 0), (.int .i64 0), (.bool false), (.slice none 0 0), (.slice none 0 0), (.int .i64 0), (.int .i64 0), (.int .i64 0), (.int .i64 0)]) 176 rfl Try.underlying22 info38 rfl (by decide) (by omega) u5 x5_2 (rd_L6 t249 x26_2) _ _ _ (fun k_ => some k_ ≠ (.slice (some ad252) t249.length co20 : Value).ownBlock) (fun k_ => ((fun k_ => some k_ ≠ (.slice (some ad252) t249.length co20 : Value).ownBlock)) k_ ∧ some k_ ≠ (u5 : Value).ownBlock) rfl rfl ?aO ?aR (fun _ hk => hk) ?aF ?aB ?aS ?aL ?_; (case aR => exact (by skip; exact Kd.V_F (Kd.V_mono (ok' := (fun k_ => ((fun k_ => some k_ ≠ (.slice (some ad252) t249.length co20 : Value).ownBlock)) k_ ∧ some k_ ≠ (u5 : Value).ownBlock)) (Ext.nV HL252_0.out) (fun k_ hk => ⟨hk.2, hk.1⟩)))); (case aB => exact (Ext.nB HB.out)); (case aF => exact (fun k_ hk => Kd.fresh' (Kd.N_lt (Ext.nN HO_24.out)) k_ hk)); (case aO => exact (Ext.nN HO_5.out)); (case aS => exact (below_size (Ext.nB HB.out))); (case aL => have := LMc39.out; omega); intro v262 w40 ho hb hg hat; rw [← Ny261.out] at ho; have n0_ := Ext.a (Kd.N_afterv (ok := (fun _ => True)) (Ext.nN (Kd.N_mono HO_24.out (fun _ hk => ⟨trivial, hk⟩))) hg hat); have n1_ := Ext.a (Kd.V_afterv (ok := (fun k_ => some k_ ≠ (.slice (some ad252) t249.length co20 : Value).ownBlock)) (Ext.nV (Kd.V_mono HL252_0.out (fun _ hk => ⟨hk.2, hk.1⟩))) hg hat); have n2_ := Ext.a (Kd.V_afterv (ok := (fun k_ => some k_ ≠ (.slice (some ad252) t249.length co20 : Value).ownBlock)) (Ext.nV (Kd.V_mono HL253_1.out (fun _ hk => ⟨hk.2, hk.1⟩))) hg hat); have n3_ := Ext.a (Kd.V_afterv (ok := (fun k_ => some k_ ≠ (.slice (some ad252) t249.length co20 : Value).ownBlock)) (Ext.nV (Kd.V_mono HL253_2.out (fun _ hk => ⟨hk.2, hk.1⟩))) hg hat); have n4_ := Ext.a (Kd.V_afterv (ok := (fun k_ => some k_ ≠ (.slice (some ad252) t249.length co20 : Value).ownBlock)) (Ext.nV (Kd.V_mono HL253_8.out (fun _ hk => ⟨hk.2, hk.1⟩))) hg hat); have n5_ := Ext.a (Kd.V_afterv (ok := (fun k_ => some k_ ≠ (.slice (some ad252) t249.length co20 : Value).ownBlock)) (Ext.nV (Kd.V_mono HL253_9.out (fun _ hk => ⟨hk.2, hk.1⟩))) hg hat); have n6_ := Ext.a (Kd.V_afterv (ok := (fun k_ => some k_ ≠ (.slice (some ad252) t249.length co20 : Value).ownBlock)) (Ext.nV (Kd.V_mono HL260_1.out (fun _ hk => ⟨hk.2, hk.1⟩))) hg hat); have n7_ := Ext.a (Kd.V_afterv (ok := (fun k_ => some k_ ≠ (.slice (some ad252) t249.length co20 : Value).ownBlock)) (Ext.nV (Kd.V_mono HL260_2.out (fun _ hk => ⟨hk.2, hk.1⟩))) hg hat); have n8_ := Ext.a (Kd.V_afterv (ok := (fun k_ => some k_ ≠ (.slice (some ad252) t249.length co20 : Value).ownBlock)) (Ext.nV (Kd.V_mono HL260_8.out (fun _ hk => ⟨hk.2, hk.1⟩))) hg hat); have n9_ := Ext.a (Kd.V_afterv (ok := (fun k_ => some k_ ≠ (.slice (some ad252) t249.length co20 : Value).ownBlock)) (Ext.nV (Kd.V_mono HL260_9.out (fun _ hk => ⟨hk.2, hk.1⟩))) hg hat); have n10_ := Ext.a (hb); have n11_ := Ext.a (ho); clear HO_24 HL252_0 HL253_1 HL253_2 HL253_8 HL253_9 HL260_1 HL260_2 HL260_8 HL260_9 HB HO_5; have HO_24 := n0_; have HL252_0 := n1_; have HL253_1 := n2_; have HL253_2 := n3_; have HL253_8 := n4_; have HL253_9 := n5_; have HL260_1 := n6_; have HL260_2 := n7_; have HL260_8 := n8_; have HL260_9 := n9_; have HB := n10_; have HO263 := n11_; clear n0_ n1_ n2_ n3_ n4_ n5_ n6_ n7_ n8_ n9_ n10_ n11_; clear ho hb hg hat)); try go_wp2_with (first | ((with_reducible refine gate_builtin (b := .append) (xs := #[.tmp 78, .tmp 79]) rfl ?_); (try (refine gate_guard (by rfl) ?_; dsimp only)); at_builtin; refine Kd.N_append_rows k38 (w0 := w) w.heap.size rfl (.tmp 78) (.tmp 79) 22 38 (.agg #[(.int .i64 0), (.slice none 0 0), (.slice none 0 0), (.int .i64 0), (.int .i64 0), (.int .i64 0), (.int .i64 0), (.bool false), (.slice none 0 0), (.slice none 0 0), (.int .i64 0), (.int .i64 0), (.int .i64 0), (.int .i64 0)]) 176 rfl Try.underlying22 info38 rfl (by decide) (by omega) u5 x5_2 (rd_L6 t249 x26_2) _ _ _ (fun k_ => some k_ ≠ (.slice (some ad252) t249.length co20 : Value).ownBlock) (fun k_ => ((fun k_ => some k_ ≠ (.slice (some ad252) t249.length co20 : Value).ownBlock)) k_ ∧ some k_ ≠ (u5 : Value).ownBlock) rfl rfl ?aO ?aR (fun _ hk => hk) ?aF ?aB ?aS ?aL ?_; (case aR => exact (by skip; exact Kd.V_F (Kd.V_mono (ok' := (fun k_ => ((fun k_ => some k_ ≠ (.slice (some ad252) t249.length co20 : Value).ownBlock)) k_ ∧ some k_ ≠ (u5 : Value).ownBlock)) (Ext.nV HL252_0.out) (fun k_ hk => ⟨hk.2, hk.1⟩)))); (case aB => exact (Ext.nB HB.out)); (case aF => exact (fun k_ hk => Kd.fresh' (Kd.N_lt (Ext.nN HO_24.out)) k_ hk)); (case aO => exact (Ext.nN HO_5.out)); (case aS => exact (below_size (Ext.nB HB.out))); (case aL => have := LMc39.out; omega); intro v262 w40 ho hb hg hat; rw [← Ny261.out] at ho; have n0_ := Ext.a (Kd.N_afterv (ok := (fun _ => True)) (Ext.nN (Kd.N_mono HO_24.out (fun _ hk => ⟨trivial, hk⟩))) hg hat); have n1_ := Ext.a (Kd.V_afterv (ok := (fun k_ => some k_ ≠ (.slice (some ad252) t249.length co20 : Value).ownBlock)) (Ext.nV (Kd.V_mono HL252_0.out (fun _ hk => ⟨hk.2, hk.1⟩))) hg hat); have n2_ := Ext.a (Kd.V_afterv (ok := (fun k_ => some k_ ≠ (.slice (some ad252) t249.length co20 : Value).ownBlock)) (Ext.nV (Kd.V_mono HL253_1.out (fun _ hk => ⟨hk.2, hk.1⟩))) hg hat); have n3_ := Ext.a (Kd.V_afterv (ok := (fun k_ => some k_ ≠ (.slice (some ad252) t249.length co20 : Value).ownBlock)) (Ext.nV (Kd.V_mono HL253_2.out (fun _ hk => ⟨hk.2, hk.1⟩))) hg hat); have n4_ := Ext.a (Kd.V_afterv (ok := (fun k_ => some k_ ≠ (.slice (some ad252) t249.length co20 : Value).ownBlock)) (Ext.nV (Kd.V_mono HL253_8.out (fun _ hk => ⟨hk.2, hk.1⟩))) hg hat); have n5_ := Ext.a (Kd.V_afterv (ok := (fun k_ => some k_ ≠ (.slice (some ad252) t249.length co20 : Value).ownBlock)) (Ext.nV (Kd.V_mono HL253_9.out (fun _ hk => ⟨hk.2, hk.1⟩))) hg hat); have n6_ := Ext.a (Kd.V_afterv (ok := (fun k_ => some k_ ≠ (.slice (some ad252) t249.length co20 : Value).ownBlock)) (Ext.nV (Kd.V_mono HL260_1.out (fun _ hk => ⟨hk.2, hk.1⟩))) hg hat); have n7_ := Ext.a (Kd.V_afterv (ok := (fun k_ => some k_ ≠ (.slice (some ad252) t249.length co20 : Value).ownBlock)) (Ext.nV (Kd.V_mono HL260_2.out (fun _ hk => ⟨hk.2, hk.1⟩))) hg hat); have n8_ := Ext.a (Kd.V_afterv (ok := (fun k_ => some k_ ≠ (.slice (some ad252) t249.length co20 : Value).ownBlock)) (Ext.nV (Kd.V_mono HL260_8.out (fun _ hk => ⟨hk.2, hk.1⟩))) hg hat); have n9_ := Ext.a (Kd.V_afterv (ok := (fun k_ => some k_ ≠ (.slice (some ad252) t249.length co20 : Value).ownBlock)) (Ext.nV (Kd.V_mono HL260_9.out (fun _ hk => ⟨hk.2, hk.1⟩))) hg hat); have n10_ := Ext.a (hb); have n11_ := Ext.a (ho); clear HO_24 HL252_0 HL253_1 HL253_2 HL253_8 HL253_9 HL260_1 HL260_2 HL260_8 HL260_9 HB HO_5; have HO_24 := n0_; have HL252_0 := n1_; have HL253_1 := n2_; have HL253_2 := n3_; have HL253_8 := n4_; have HL253_9 := n5_; have HL260_1 := n6_; have HL260_2 := n7_; have HL260_8 := n8_; have HL260_9 := n9_; have HB := n10_; have HO263 := n11_; clear n0_ n1_ n2_ n3_ n4_ n5_ n6_ n7_ n8_ n9_ n10_ n11_; clear ho hb hg hat)))
                 go_roundg k2
                 case measure => have := HJ2.out; have := HK2.out; omega
                 case rel => exact ⟨(y261), ((rd_T38 (rd_L6 t249 x26_2) (ji36)).f1.f3), (wrap64 (x26_2 + 1)), (by first | rfl | (simp; done) | (simp only [← hji36] <;> (first | rfl | simp)) | (simp [*]; done)), (by first | rfl | (simp; done) | (simp [*]; done)), H', ⟨by have := HJ2.out; have := HK2.out; omega⟩, ⟨by (with_reducible repeat (first | apply Kd.N_alloc | apply Kd.N_drewN | apply Kd.N_drew)); exact HO263.out⟩, ⟨by (with_reducible repeat (first | apply Kd.N_alloc | apply Kd.N_drewN | apply Kd.N_drew)); exact Kd.N_mono HO_24.out (fun _ hk => hk.2)⟩, ⟨by repeat (first | (with_reducible first | exact HB.out | apply Ext.ba | apply Ext.bn | apply Ext.bd) | exact HB.out | exact .refl _ _)⟩⟩
                · rw [if_neg c39] at H; exact absurd H (by simp)
               · rw [if_neg c38] at H; exact absurd H (by simp)
              · rw [if_neg c37] at H; exact absurd H (by simp)
           · rw [if_neg c26] at H; exact absurd H (by simp)
          ·
           rw [if_neg c25] at H
           have c25b0 : decide (0 < x26_2) = false := decide_eq_false c25
           clear c25
           obtain ⟨ji41, hji41⟩ : ∃ j_ : Int, (mx a1 1) = j_ := ⟨_, rfl⟩
           replace H : (if ((rd_L6 t249 x26_2).length : Int) > (ji41) then (if 0 < ((rd_L6 t249 x26_2).length : Int) then (if 0 ≤ (wrap64 (((rd_L6 t249 x26_2).length : Int) - 1)) then (if (wrap64 (((rd_L6 t249 x26_2).length : Int) - 1)) < ((rd_L6 t249 x26_2).length : Int) then (if ((rd_T38 (rd_L6 t249 x26_2) 0).f1.f3) = ((rd_T38 (rd_L6 t249 x26_2) (wrap64 (((rd_L6 t249 x26_2).length : Int) - 1))).f1.f3) then (if x5_2.length + (rd_L6 t249 x26_2).length < 799644820200 then (terrierlaw17_BatchWhole.l0 k2 l0 a1 (x5_2 ++ (rd_L6 t249 x26_2)) ((rd_T38 (rd_L6 t249 x26_2) (wrap64 (((rd_L6 t249 x26_2).length : Int) - 1))).f1.f3) t249 (t249.length : Int) (wrap64 (x26_2 + 1))) else (none)) else (some false)) else (none)) else (none)) else (none)) else (if 0 ≤ (wrap64 (((rd_L6 t249 x26_2).length : Int) - 1)) then (if (wrap64 (((rd_L6 t249 x26_2).length : Int) - 1)) < ((rd_L6 t249 x26_2).length : Int) then (if x5_2.length + (rd_L6 t249 x26_2).length < 799644820200 then (terrierlaw17_BatchWhole.l0 k2 l0 a1 (x5_2 ++ (rd_L6 t249 x26_2)) ((rd_T38 (rd_L6 t249 x26_2) (wrap64 (((rd_L6 t249 x26_2).length : Int) - 1))).f1.f3) t249 (t249.length : Int) (wrap64 (x26_2 + 1))) else (none)) else (none)) else (none))) = some r := by first | (rw [hji41] at H; exact H) | (simp only [hji41] at H ⊢; exact H)
           have hji41_ : (if a1 < 1 then 1 else a1) = ji41 := hji41
           by_cases c42 : ((rd_L6 t249 x26_2).length : Int) > (ji41)
           ·
            rw [if_pos c42] at H
            have c42b0 : decide ((ji41) < ((rd_L6 t249 x26_2).length : Int)) = true := decide_eq_true c42
            clear c42
            by_cases c43 : 0 < ((rd_L6 t249 x26_2).length : Int)
            ·
             rw [if_pos c43] at H
             have c43b0 : decide (0 < ((rd_L6 t249 x26_2).length : Int)) = true := decide_eq_true c43
             have c43b1 : decide (0 < (rd_L6 t249 x26_2).length) = true := decide_eq_true (by omega)
             clear c43
             obtain ⟨ji44, hji44⟩ : ∃ j_ : Int, (wrap64 (((rd_L6 t249 x26_2).length : Int) - 1)) = j_ := ⟨_, rfl⟩
             replace H : (if 0 ≤ (ji44) then (if (ji44) < ((rd_L6 t249 x26_2).length : Int) then (if ((rd_T38 (rd_L6 t249 x26_2) 0).f1.f3) = ((rd_T38 (rd_L6 t249 x26_2) (ji44)).f1.f3) then (if x5_2.length + (rd_L6 t249 x26_2).length < 799644820200 then (terrierlaw17_BatchWhole.l0 k2 l0 a1 (x5_2 ++ (rd_L6 t249 x26_2)) ((rd_T38 (rd_L6 t249 x26_2) (ji44)).f1.f3) t249 (t249.length : Int) (wrap64 (x26_2 + 1))) else (none)) else (some false)) else (none)) else (none)) = some r := by first | (rw [hji44] at H; exact H) | (simp only [hji44] at H ⊢; exact H)
             have hji44w : (IntKind.i64.wrap (((rd_L6 t249 x26_2).length : Int) - 1)) = ji44 := (i64_w _).trans hji44
             by_cases c45 : 0 ≤ (ji44)
             ·
              rw [if_pos c45] at H
              have c45b0 : decide (0 ≤ (ji44)) = true := decide_eq_true c45
              clear c45
              by_cases c46 : (ji44) < ((rd_L6 t249 x26_2).length : Int)
              ·
               rw [if_pos c46] at H
               have c46b0 : decide ((ji44) < ((rd_L6 t249 x26_2).length : Int)) = true := decide_eq_true c46
               clear c46
               by_cases c47 : ((rd_T38 (rd_L6 t249 x26_2) 0).f1.f3) = ((rd_T38 (rd_L6 t249 x26_2) (ji44)).f1.f3)
               ·
                rw [if_pos c47] at H
                have c47b0 : (((rd_T38 (rd_L6 t249 x26_2) 0).f1.f3) == ((rd_T38 (rd_L6 t249 x26_2) (ji44)).f1.f3)) = true := beq_iff_eq.mpr c47
                have c47b1 : (((rd_T38 (rd_L6 t249 x26_2) 0).f1.f3) != ((rd_T38 (rd_L6 t249 x26_2) (ji44)).f1.f3)) = false := bne_eq_false_iff_eq.mpr c47
                clear c47
                by_cases c48 : x5_2.length + (rd_L6 t249 x26_2).length < 799644820200
                ·
                 rw [if_pos c48] at H
                 have LMc48 := Aside0.mk c48
                 clear c48
                 obtain ⟨y267, hy267⟩ : ∃ y_ : List (S38), y_ = (x5_2 ++ (rd_L6 t249 x26_2)) := ⟨_, rfl⟩
                 replace H : (terrierlaw17_BatchWhole.l0 k2 l0 a1 y267 ((rd_T38 (rd_L6 t249 x26_2) (ji44)).f1.f3) t249 (t249.length : Int) (wrap64 (x26_2 + 1))) = some r := by first | (rw [hy267]; with_reducible exact H) | (have H2_ := (Option.bind_some _ _).symm.trans H; rw [hy267]; with_reducible exact H2_) | (have H2_ := (Option.bind_some _ _).symm.trans H; with_reducible exact H2_) | with_reducible exact H | (rw [hy267]; exact H) | exact H
                 have Ny267 := Aside0.mk hy267
                 clear hy267
                 have H' := Aside0.mk H
                 clear H
                 have p252 : 0 ≤ (x26_2 : Int) := of_decide_eq_true (by first | (with_reducible assumption) | assumption)
                 have q252 : x26_2 < (t249.length : Int) := of_decide_eq_true (by first | (with_reducible assumption) | assumption)
                 obtain ⟨ad252, A252_0, c252_0, e252, hx252_0, hl252_0, hi252_0⟩ := at_L6 (Kd.N_reads' HO_24.out).2.2 x26_2 p252 q252
                 cases e252
                 obtain ⟨ce252, hce252, hMe252, hcc252⟩ := Kd.N_get HO_24.out [] x26_2 p252 (by first | exact q252 | exact of_decide_eq_true (by first | (with_reducible assumption) | assumption) | (have e_ := (Kd.N_reads' HO_24.out).1; omega))
                 obtain ⟨ua252_0, uc252_0, rfl, ul252_0, ge252_0⟩ := Kd.FK_slice_open hMe252
                 have hv252_0 := hcc252 0 _ rfl
                 rw [Nat.add_zero, show ((Kd.slice 38 k38)).sz = 1 from rfl, Nat.mul_one] at hv252_0
                 replace hv252_0 := Option.some.inj (hv252_0.symm.trans hx252_0)
                 injection hv252_0 with hva_ hvn_ hvc_
                 rw [hva_] at ge252_0
                 rw [hvc_] at ul252_0
                 have HL252_0 := Ext.a (show Kd.V k38 38 _ w.heap.size _ _ (rd_L6 t249 x26_2) from Kd.V_mk ul252_0 ge252_0)
                 clear hva_ hvn_ hvc_ ge252_0 ul252_0
                 clear hcc252 hce252
                 have HR252_0 := Aside0.mk hi252_0
                 have HC252_0 := Aside0.mk hl252_0
                 clear hi252_0 hl252_0
                 replace p252 := eq_true p252
                 replace q252 := eq_true q252
                 have p264 : 0 ≤ (0 : Int) := (by omega)
                 have q264 : 0 < ((rd_L6 t249 x26_2).length : Int) := of_decide_eq_true (by first | (with_reducible assumption) | assumption)
                 obtain ⟨ad264, A264_1, c264_1, A264_2, c264_2, A264_8, c264_8, A264_9, c264_9, e264, hx264_0, hx264_1, hx264_2, hx264_3, hx264_4, hx264_5, hx264_6, hx264_7, hx264_8, hx264_9, hx264_10, hx264_11, hx264_12, hx264_13, hl264_1, hi264_1, hl264_2, hi264_2, hl264_8, hi264_8, hl264_9, hi264_9⟩ := at_T38 (by repeat (first | (with_reducible exact HR252_0.out) | (with_reducible refine Kd.C_alloc ?_ _) | (with_reducible refine Kd.C_drewN ?_ _) | (with_reducible refine Kd.C_drew ?_) | exact HR252_0.out)) 0 p264 q264
                 cases e264
                 obtain ⟨ce264, hce264, hMe264, hcc264⟩ := Kd.V_get HL252_0.out z38 0 p264 (by first | exact q264 | exact of_decide_eq_true (by first | (with_reducible assumption) | assumption) | (have e_ := (Kd.V_reads' HL252_0.out).1; omega))
                 obtain ⟨ua264_1, uc264_1, ua264_2, uc264_2, ua264_8, uc264_8, ua264_9, uc264_9, rfl, ul264_1, ge264_1, ul264_2, ge264_2, ul264_8, ge264_8, ul264_9, ge264_9⟩ := k38_openF hMe264
                 have hv264_1 := hcc264 1 _ rfl
                 rw [add_field _ _ 1 (by omega)] at hv264_1
                 replace hv264_1 := Option.some.inj (hv264_1.symm.trans hx264_1)
                 injection hv264_1 with hva_ hvn_ hvc_
                 rw [hva_] at ge264_1
                 rw [hvc_] at ul264_1
                 have HL264_1 := Ext.a (show Kd.V (Kd.int .u8) 5 _ w.heap.size _ _ ((rd_T38 (rd_L6 t249 x26_2) 0).f1.f0) from Kd.V_mk ul264_1 ge264_1)
                 clear hva_ hvn_ hvc_ ge264_1 ul264_1
                 have hv264_2 := hcc264 2 _ rfl
                 rw [add_field _ _ 2 (by omega)] at hv264_2
                 replace hv264_2 := Option.some.inj (hv264_2.symm.trans hx264_2)
                 injection hv264_2 with hva_ hvn_ hvc_
                 rw [hva_] at ge264_2
                 rw [hvc_] at ul264_2
                 have HL264_2 := Ext.a (show Kd.V (Kd.int .u8) 5 _ w.heap.size _ _ ((rd_T38 (rd_L6 t249 x26_2) 0).f1.f1) from Kd.V_mk ul264_2 ge264_2)
                 clear hva_ hvn_ hvc_ ge264_2 ul264_2
                 have hv264_8 := hcc264 8 _ rfl
                 rw [add_field _ _ 8 (by omega)] at hv264_8
                 replace hv264_8 := Option.some.inj (hv264_8.symm.trans hx264_8)
                 injection hv264_8 with hva_ hvn_ hvc_
                 rw [hva_] at ge264_8
                 rw [hvc_] at ul264_8
                 have HL264_8 := Ext.a (show Kd.V (Kd.int .u8) 5 _ w.heap.size _ _ ((rd_T38 (rd_L6 t249 x26_2) 0).f3.f0) from Kd.V_mk ul264_8 ge264_8)
                 clear hva_ hvn_ hvc_ ge264_8 ul264_8
                 have hv264_9 := hcc264 9 _ rfl
                 rw [add_field _ _ 9 (by omega)] at hv264_9
                 replace hv264_9 := Option.some.inj (hv264_9.symm.trans hx264_9)
                 injection hv264_9 with hva_ hvn_ hvc_
                 rw [hva_] at ge264_9
                 rw [hvc_] at ul264_9
                 have HL264_9 := Ext.a (show Kd.V (Kd.int .u8) 5 _ w.heap.size _ _ ((rd_T38 (rd_L6 t249 x26_2) 0).f3.f1) from Kd.V_mk ul264_9 ge264_9)
                 clear hva_ hvn_ hvc_ ge264_9 ul264_9
                 clear hcc264 hce264
                 have qi264 : (0 < (rd_L6 t249 x26_2).length) = True := eq_true (by omega)
                 (try rw [show ((0 : Int)).toNat = 0 from rfl] at hx264_0)
                 (try rw [show 0 * 14 = 0 from rfl] at hx264_0)
                 (try rw [Addr.add_zero'] at hx264_0)
                 (try rw [show ((0 : Int)).toNat = 0 from rfl] at hx264_1)
                 (try rw [show 0 * 14 = 0 from rfl] at hx264_1)
                 (try rw [Addr.add_zero'] at hx264_1)
                 (try rw [show ((0 : Int)).toNat = 0 from rfl] at hx264_2)
                 (try rw [show 0 * 14 = 0 from rfl] at hx264_2)
                 (try rw [Addr.add_zero'] at hx264_2)
                 (try rw [show ((0 : Int)).toNat = 0 from rfl] at hx264_3)
                 (try rw [show 0 * 14 = 0 from rfl] at hx264_3)
                 (try rw [Addr.add_zero'] at hx264_3)
                 (try rw [show ((0 : Int)).toNat = 0 from rfl] at hx264_4)
                 (try rw [show 0 * 14 = 0 from rfl] at hx264_4)
                 (try rw [Addr.add_zero'] at hx264_4)
                 (try rw [show ((0 : Int)).toNat = 0 from rfl] at hx264_5)
                 (try rw [show 0 * 14 = 0 from rfl] at hx264_5)
                 (try rw [Addr.add_zero'] at hx264_5)
                 (try rw [show ((0 : Int)).toNat = 0 from rfl] at hx264_6)
                 (try rw [show 0 * 14 = 0 from rfl] at hx264_6)
                 (try rw [Addr.add_zero'] at hx264_6)
                 (try rw [show ((0 : Int)).toNat = 0 from rfl] at hx264_7)
                 (try rw [show 0 * 14 = 0 from rfl] at hx264_7)
                 (try rw [Addr.add_zero'] at hx264_7)
                 (try rw [show ((0 : Int)).toNat = 0 from rfl] at hx264_8)
                 (try rw [show 0 * 14 = 0 from rfl] at hx264_8)
                 (try rw [Addr.add_zero'] at hx264_8)
                 (try rw [show ((0 : Int)).toNat = 0 from rfl] at hx264_9)
                 (try rw [show 0 * 14 = 0 from rfl] at hx264_9)
                 (try rw [Addr.add_zero'] at hx264_9)
                 (try rw [show ((0 : Int)).toNat = 0 from rfl] at hx264_10)
                 (try rw [show 0 * 14 = 0 from rfl] at hx264_10)
                 (try rw [Addr.add_zero'] at hx264_10)
                 (try rw [show ((0 : Int)).toNat = 0 from rfl] at hx264_11)
                 (try rw [show 0 * 14 = 0 from rfl] at hx264_11)
                 (try rw [Addr.add_zero'] at hx264_11)
                 (try rw [show ((0 : Int)).toNat = 0 from rfl] at hx264_12)
                 (try rw [show 0 * 14 = 0 from rfl] at hx264_12)
                 (try rw [Addr.add_zero'] at hx264_12)
                 (try rw [show ((0 : Int)).toNat = 0 from rfl] at hx264_13)
                 (try rw [show 0 * 14 = 0 from rfl] at hx264_13)
                 (try rw [Addr.add_zero'] at hx264_13)
                 have HR264_1 := Aside0.mk hi264_1
                 have HC264_1 := Aside0.mk hl264_1
                 clear hi264_1 hl264_1
                 have HR264_2 := Aside0.mk hi264_2
                 have HC264_2 := Aside0.mk hl264_2
                 clear hi264_2 hl264_2
                 have HR264_8 := Aside0.mk hi264_8
                 have HC264_8 := Aside0.mk hl264_8
                 clear hi264_8 hl264_8
                 have HR264_9 := Aside0.mk hi264_9
                 have HC264_9 := Aside0.mk hl264_9
                 clear hi264_9 hl264_9
                 replace p264 := eq_true p264
                 replace q264 := eq_true q264
                 have p265 : 0 ≤ ((ji44) : Int) := of_decide_eq_true (by first | (with_reducible assumption) | assumption)
                 have q265 : (ji44) < ((rd_L6 t249 x26_2).length : Int) := of_decide_eq_true (by first | (with_reducible assumption) | assumption)
                 obtain ⟨ad265, A265_1, c265_1, A265_2, c265_2, A265_8, c265_8, A265_9, c265_9, e265, hx265_0, hx265_1, hx265_2, hx265_3, hx265_4, hx265_5, hx265_6, hx265_7, hx265_8, hx265_9, hx265_10, hx265_11, hx265_12, hx265_13, hl265_1, hi265_1, hl265_2, hi265_2, hl265_8, hi265_8, hl265_9, hi265_9⟩ := at_T38 (by repeat (first | (with_reducible exact HR252_0.out) | (with_reducible refine Kd.C_alloc ?_ _) | (with_reducible refine Kd.C_drewN ?_ _) | (with_reducible refine Kd.C_drew ?_) | exact HR252_0.out)) (ji44) p265 q265
                 obtain rfl : ad264 = ad265 := (by injection e265)
                 obtain ⟨ce265, hce265, hMe265, hcc265⟩ := Kd.V_get HL252_0.out z38 (ji44) p265 (by first | exact q265 | exact of_decide_eq_true (by first | (with_reducible assumption) | assumption) | (have e_ := (Kd.V_reads' HL252_0.out).1; omega))
                 obtain ⟨ua265_1, uc265_1, ua265_2, uc265_2, ua265_8, uc265_8, ua265_9, uc265_9, rfl, ul265_1, ge265_1, ul265_2, ge265_2, ul265_8, ge265_8, ul265_9, ge265_9⟩ := k38_openF hMe265
                 have hv265_1 := hcc265 1 _ rfl
                 rw [add_field _ _ 1 (by omega)] at hv265_1
                 replace hv265_1 := Option.some.inj (hv265_1.symm.trans hx265_1)
                 injection hv265_1 with hva_ hvn_ hvc_
                 rw [hva_] at ge265_1
                 rw [hvc_] at ul265_1
                 have HL265_1 := Ext.a (show Kd.V (Kd.int .u8) 5 _ w.heap.size _ _ ((rd_T38 (rd_L6 t249 x26_2) (ji44)).f1.f0) from Kd.V_mk ul265_1 ge265_1)
                 clear hva_ hvn_ hvc_ ge265_1 ul265_1
                 have hv265_2 := hcc265 2 _ rfl
                 rw [add_field _ _ 2 (by omega)] at hv265_2
                 replace hv265_2 := Option.some.inj (hv265_2.symm.trans hx265_2)
                 injection hv265_2 with hva_ hvn_ hvc_
                 rw [hva_] at ge265_2
                 rw [hvc_] at ul265_2
                 have HL265_2 := Ext.a (show Kd.V (Kd.int .u8) 5 _ w.heap.size _ _ ((rd_T38 (rd_L6 t249 x26_2) (ji44)).f1.f1) from Kd.V_mk ul265_2 ge265_2)
                 clear hva_ hvn_ hvc_ ge265_2 ul265_2
                 have hv265_8 := hcc265 8 _ rfl
                 rw [add_field _ _ 8 (by omega)] at hv265_8
                 replace hv265_8 := Option.some.inj (hv265_8.symm.trans hx265_8)
                 injection hv265_8 with hva_ hvn_ hvc_
                 rw [hva_] at ge265_8
                 rw [hvc_] at ul265_8
                 have HL265_8 := Ext.a (show Kd.V (Kd.int .u8) 5 _ w.heap.size _ _ ((rd_T38 (rd_L6 t249 x26_2) (ji44)).f3.f0) from Kd.V_mk ul265_8 ge265_8)
                 clear hva_ hvn_ hvc_ ge265_8 ul265_8
                 have hv265_9 := hcc265 9 _ rfl
                 rw [add_field _ _ 9 (by omega)] at hv265_9
                 replace hv265_9 := Option.some.inj (hv265_9.symm.trans hx265_9)
                 injection hv265_9 with hva_ hvn_ hvc_
                 rw [hva_] at ge265_9
                 rw [hvc_] at ul265_9
                 have HL265_9 := Ext.a (show Kd.V (Kd.int .u8) 5 _ w.heap.size _ _ ((rd_T38 (rd_L6 t249 x26_2) (ji44)).f3.f1) from Kd.V_mk ul265_9 ge265_9)
                 clear hva_ hvn_ hvc_ ge265_9 ul265_9
                 clear hcc265 hce265
                 have HR265_1 := Aside0.mk hi265_1
                 have HC265_1 := Aside0.mk hl265_1
                 clear hi265_1 hl265_1
                 have HR265_2 := Aside0.mk hi265_2
                 have HC265_2 := Aside0.mk hl265_2
                 clear hi265_2 hl265_2
                 have HR265_8 := Aside0.mk hi265_8
                 have HC265_8 := Aside0.mk hl265_8
                 clear hi265_8 hl265_8
                 have HR265_9 := Aside0.mk hi265_9
                 have HC265_9 := Aside0.mk hl265_9
                 clear hi265_9 hl265_9
                 replace p265 := eq_true p265
                 replace q265 := eq_true q265
                 have p266 : 0 ≤ ((ji44) : Int) := of_decide_eq_true (by first | (with_reducible assumption) | assumption)
                 have q266 : (ji44) < ((rd_L6 t249 x26_2).length : Int) := of_decide_eq_true (by first | (with_reducible assumption) | assumption)
                 obtain ⟨ad266, A266_1, c266_1, A266_2, c266_2, A266_8, c266_8, A266_9, c266_9, e266, hx266_0, hx266_1, hx266_2, hx266_3, hx266_4, hx266_5, hx266_6, hx266_7, hx266_8, hx266_9, hx266_10, hx266_11, hx266_12, hx266_13, hl266_1, hi266_1, hl266_2, hi266_2, hl266_8, hi266_8, hl266_9, hi266_9⟩ := at_T38 (by repeat (first | (with_reducible exact HR252_0.out) | (with_reducible refine Kd.C_alloc ?_ _) | (with_reducible refine Kd.C_drewN ?_ _) | (with_reducible refine Kd.C_drew ?_) | exact HR252_0.out)) (ji44) p266 q266
                 obtain rfl : ad264 = ad266 := (by injection e266)
                 obtain ⟨ce266, hce266, hMe266, hcc266⟩ := Kd.V_get HL252_0.out z38 (ji44) p266 (by first | exact q266 | exact of_decide_eq_true (by first | (with_reducible assumption) | assumption) | (have e_ := (Kd.V_reads' HL252_0.out).1; omega))
                 obtain ⟨ua266_1, uc266_1, ua266_2, uc266_2, ua266_8, uc266_8, ua266_9, uc266_9, rfl, ul266_1, ge266_1, ul266_2, ge266_2, ul266_8, ge266_8, ul266_9, ge266_9⟩ := k38_openF hMe266
                 have hv266_1 := hcc266 1 _ rfl
                 rw [add_field _ _ 1 (by omega)] at hv266_1
                 replace hv266_1 := Option.some.inj (hv266_1.symm.trans hx266_1)
                 injection hv266_1 with hva_ hvn_ hvc_
                 rw [hva_] at ge266_1
                 rw [hvc_] at ul266_1
                 have HL266_1 := Ext.a (show Kd.V (Kd.int .u8) 5 _ w.heap.size _ _ ((rd_T38 (rd_L6 t249 x26_2) (ji44)).f1.f0) from Kd.V_mk ul266_1 ge266_1)
                 clear hva_ hvn_ hvc_ ge266_1 ul266_1
                 have hv266_2 := hcc266 2 _ rfl
                 rw [add_field _ _ 2 (by omega)] at hv266_2
                 replace hv266_2 := Option.some.inj (hv266_2.symm.trans hx266_2)
                 injection hv266_2 with hva_ hvn_ hvc_
                 rw [hva_] at ge266_2
                 rw [hvc_] at ul266_2
                 have HL266_2 := Ext.a (show Kd.V (Kd.int .u8) 5 _ w.heap.size _ _ ((rd_T38 (rd_L6 t249 x26_2) (ji44)).f1.f1) from Kd.V_mk ul266_2 ge266_2)
                 clear hva_ hvn_ hvc_ ge266_2 ul266_2
                 have hv266_8 := hcc266 8 _ rfl
                 rw [add_field _ _ 8 (by omega)] at hv266_8
                 replace hv266_8 := Option.some.inj (hv266_8.symm.trans hx266_8)
                 injection hv266_8 with hva_ hvn_ hvc_
                 rw [hva_] at ge266_8
                 rw [hvc_] at ul266_8
                 have HL266_8 := Ext.a (show Kd.V (Kd.int .u8) 5 _ w.heap.size _ _ ((rd_T38 (rd_L6 t249 x26_2) (ji44)).f3.f0) from Kd.V_mk ul266_8 ge266_8)
                 clear hva_ hvn_ hvc_ ge266_8 ul266_8
                 have hv266_9 := hcc266 9 _ rfl
                 rw [add_field _ _ 9 (by omega)] at hv266_9
                 replace hv266_9 := Option.some.inj (hv266_9.symm.trans hx266_9)
                 injection hv266_9 with hva_ hvn_ hvc_
                 rw [hva_] at ge266_9
                 rw [hvc_] at ul266_9
                 have HL266_9 := Ext.a (show Kd.V (Kd.int .u8) 5 _ w.heap.size _ _ ((rd_T38 (rd_L6 t249 x26_2) (ji44)).f3.f1) from Kd.V_mk ul266_9 ge266_9)
                 clear hva_ hvn_ hvc_ ge266_9 ul266_9
                 clear hcc266 hce266
                 have HR266_1 := Aside0.mk hi266_1
                 have HC266_1 := Aside0.mk hl266_1
                 clear hi266_1 hl266_1
                 have HR266_2 := Aside0.mk hi266_2
                 have HC266_2 := Aside0.mk hl266_2
                 clear hi266_2 hl266_2
                 have HR266_8 := Aside0.mk hi266_8
                 have HC266_8 := Aside0.mk hl266_8
                 clear hi266_8 hl266_8
                 have HR266_9 := Aside0.mk hi266_9
                 have HC266_9 := Aside0.mk hl266_9
                 clear hi266_9 hl266_9
                 replace p266 := eq_true p266
                 replace q266 := eq_true q266
                 have ea_ := Option.some.inj (hx265_1.symm.trans hx266_1)
                 injection ea_ with ea_ en_ ec_
                 subst ea_
                 subst ec_
                 clear en_
                 have ea_ := Option.some.inj (hx265_2.symm.trans hx266_2)
                 injection ea_ with ea_ en_ ec_
                 subst ea_
                 subst ec_
                 clear en_
                 have ea_ := Option.some.inj (hx265_8.symm.trans hx266_8)
                 injection ea_ with ea_ en_ ec_
                 subst ea_
                 subst ec_
                 clear en_
                 have ea_ := Option.some.inj (hx265_9.symm.trans hx266_9)
                 injection ea_ with ea_ en_ ec_
                 subst ea_
                 subst ec_
                 clear en_
                 go_wp2_with (first | ((with_reducible refine gate_builtin (b := .append) (xs := #[.tmp 78, .tmp 79]) rfl ?_); (try (refine gate_guard (by rfl) ?_; dsimp only)); at_builtin; refine Kd.N_append_rows k38 (w0 := w) w.heap.size rfl (.tmp 78) (.tmp 79) 22 38 (.agg #[(.int .i64 0), (.slice none 0 0), (.slice none 0 0), (.int .i64 0), (.int .i64 0), (.int .i64 0), (.int .i64 0), (.bool false), (.slice none 0 0), (.slice none 0 0), (.int .i64 0), (.int .i64 0), (.int .i64 0), (.int .i64 0)]) 176 rfl Try.underlying22 info38 rfl (by decide) (by omega) u5 x5_2 (rd_L6 t249 x26_2) _ _ _ (fun k_ => some k_ ≠ (.slice (some ad252) t249.length co20 : Value).ownBlock) (fun k_ => ((fun k_ => some k_ ≠ (.slice (some ad252) t249.length co20 : Value).ownBlock)) k_ ∧ some k_ ≠ (u5 : Value).ownBlock) rfl rfl ?aO ?aR (fun _ hk => hk) ?aF ?aB ?aS ?aL ?_; (case aR => exact (by skip; exact Kd.V_F (Kd.V_mono (ok' := (fun k_ => ((fun k_ => some k_ ≠ (.slice (some ad252) t249.length co20 : Value).ownBlock)) k_ ∧ some k_ ≠ (u5 : Value).ownBlock)) (Ext.nV HL252_0.out) (fun k_ hk => ⟨hk.2, hk.1⟩)))); (case aB => exact (Ext.nB HB.out)); (case aF => exact (fun k_ hk => Kd.fresh' (Kd.N_lt (Ext.nN HO_24.out)) k_ hk)); (case aO => exact (Ext.nN HO_5.out)); (case aS => exact (below_size (Ext.nB HB.out))); (case aL => have := LMc48.out; omega); intro v268 w49 ho hb hg hat; rw [← Ny267.out] at ho; have n0_ := Ext.a (Kd.N_afterv (ok := (fun _ => True)) (Ext.nN (Kd.N_mono HO_24.out (fun _ hk => ⟨trivial, hk⟩))) hg hat); have n1_ := Ext.a (Kd.V_afterv (ok := (fun k_ => some k_ ≠ (.slice (some ad252) t249.length co20 : Value).ownBlock)) (Ext.nV (Kd.V_mono HL252_0.out (fun _ hk => ⟨hk.2, hk.1⟩))) hg hat); have n2_ := Ext.a (Kd.V_afterv (ok := (fun k_ => some k_ ≠ (.slice (some ad252) t249.length co20 : Value).ownBlock)) (Ext.nV (Kd.V_mono HL264_1.out (fun _ hk => ⟨hk.2, hk.1⟩))) hg hat); have n3_ := Ext.a (Kd.V_afterv (ok := (fun k_ => some k_ ≠ (.slice (some ad252) t249.length co20 : Value).ownBlock)) (Ext.nV (Kd.V_mono HL264_2.out (fun _ hk => ⟨hk.2, hk.1⟩))) hg hat); have n4_ := Ext.a (Kd.V_afterv (ok := (fun k_ => some k_ ≠ (.slice (some ad252) t249.length co20 : Value).ownBlock)) (Ext.nV (Kd.V_mono HL264_8.out (fun _ hk => ⟨hk.2, hk.1⟩))) hg hat); have n5_ := Ext.a (Kd.V_afterv (ok := (fun k_ => some k_ ≠ (.slice (some ad252) t249.length co20 : Value).ownBlock)) (Ext.nV (Kd.V_mono HL264_9.out (fun _ hk => ⟨hk.2, hk.1⟩))) hg hat); have n6_ := Ext.a (Kd.V_afterv (ok := (fun k_ => some k_ ≠ (.slice (some ad252) t249.length co20 : Value).ownBlock)) (Ext.nV (Kd.V_mono HL265_1.out (fun _ hk => ⟨hk.2, hk.1⟩))) hg hat); have n7_ := Ext.a (Kd.V_afterv (ok := (fun k_ => some k_ ≠ (.slice (some ad252) t249.length co20 : Value).ownBlock)) (Ext.nV (Kd.V_mono HL265_2.out (fun _ hk => ⟨hk.2, hk.1⟩))) hg hat); have n8_ := Ext.a (Kd.V_afterv (ok := (fun k_ => some k_ ≠ (.slice (some ad252) t249.length co20 : Value).ownBlock)) (Ext.nV (Kd.V_mono HL265_8.out (fun _ hk => ⟨hk.2, hk.1⟩))) hg hat); have n9_ := Ext.a (Kd.V_afterv (ok := (fun k_ => some k_ ≠ (.slice (some ad252) t249.length co20 : Value).ownBlock)) (Ext.nV (Kd.V_mono HL265_9.out (fun _ hk => ⟨hk.2, hk.1⟩))) hg hat); have n10_ := Ext.a (Kd.V_afterv (ok := (fun k_ => some k_ ≠ (.slice (some ad252) t249.length co20 : Value).ownBlock)) (Ext.nV (Kd.V_mono HL266_1.out (fun _ hk => ⟨hk.2, hk.1⟩))) hg hat); have n11_ := Ext.a (Kd.V_afterv (ok := (fun k_ => some k_ ≠ (.slice (some ad252) t249.length co20 : Value).ownBlock)) (Ext.nV (Kd.V_mono HL266_2.out (fun _ hk => ⟨hk.2, hk.1⟩))) hg hat); have n12_ := Ext.a (Kd.V_afterv (ok := (fun k_ => some k_ ≠ (.slice (some ad252) t249.length co20 : Value).ownBlock)) (Ext.nV (Kd.V_mono HL266_8.out (fun _ hk => ⟨hk.2, hk.1⟩))) hg hat); have n13_ := Ext.a (Kd.V_afterv (ok := (fun k_ => some k_ ≠ (.slice (some ad252) t249.length co20 : Value).ownBlock)) (Ext.nV (Kd.V_mono HL266_9.out (fun _ hk => ⟨hk.2, hk.1⟩))) hg hat); have n14_ := Ext.a (hb); have n15_ := Ext.a (ho); clear HO_24 HL252_0 HL264_1 HL264_2 HL264_8 HL264_9 HL265_1 HL265_2 HL265_8 HL265_9 HL266_1 HL266_2 HL266_8 HL266_9 HB HO_5; have HO_24 := n0_; have HL252_0 := n1_; have HL264_1 := n2_; have HL264_2 := n3_; have HL264_8 := n4_; have HL264_9 := n5_; have HL265_1 := n6_; have HL265_2 := n7_; have HL265_8 := n8_; have HL265_9 := n9_; have HL266_1 := n10_; have HL266_2 := n11_; have HL266_8 := n12_; have HL266_9 := n13_; have HB := n14_; have HO269 := n15_; clear n0_ n1_ n2_ n3_ n4_ n5_ n6_ n7_ n8_ n9_ n10_ n11_ n12_ n13_ n14_ n15_; clear ho hb hg hat))
                 repeat (go_quiet (first | ((with_reducible refine gate_builtin (b := .append) (xs := #[.tmp 78, .tmp 79]) rfl ?_); (try (refine gate_guard (by rfl) ?_; dsimp only)); at_builtin; refine Kd.N_append_rows k38 (w0 := w) w.heap.size rfl (.tmp 78) (.tmp 79) 22 38 (.agg #[(.int .i64 0), (.slice none 0 0), (.slice none 0 0), (.int .i64 0), (.int .i64 0), (.int .i64 0), (.int .i64 0), (.bool false), (.slice none 0 0), (.slice none 0 0), (.int .i64 0), (.int .i64 0), (.int .i64 0), (.int .i64 0)]) 176 rfl Try.underlying22 info38 rfl (by decide) (by omega) u5 x5_2 (rd_L6 t249 x26_2) _ _ _ (fun k_ => some k_ ≠ (.slice (some ad252) t249.length co20 : Value).ownBlock) (fun k_ => ((fun k_ => some k_ ≠ (.slice (some ad252) t249.length co20 : Value).ownBlock)) k_ ∧ some k_ ≠ (u5 : Value).ownBlock) rfl rfl ?aO ?aR (fun _ hk => hk) ?aF ?aB ?aS ?aL ?_; (case aR => exact (by skip; exact Kd.V_F (Kd.V_mono (ok' := (fun k_ => ((fun k_ => some k_ ≠ (.slice (some ad252) t249.length co20 : Value).ownBlock)) k_ ∧ some k_ ≠ (u5 : Value).ownBlock)) (Ext.nV HL252_0.out) (fun k_ hk => ⟨hk.2, hk.1⟩)))); (case aB => exact (Ext.nB HB.out)); (case aF => exact (fun k_ hk => Kd.fresh' (Kd.N_lt (Ext.nN HO_24.out)) k_ hk)); (case aO => exact (Ext.nN HO_5.out)); (case aS => exact (below_size (Ext.nB HB.out))); (case aL => have := LMc48.out; omega); intro v268 w49 ho hb hg hat; rw [← Ny267.out] at ho; have n0_ := Ext.a (Kd.N_afterv (ok := (fun _ => True)) (Ext.nN (Kd.N_mono HO_24.out (fun _ hk => ⟨trivial, hk⟩))) hg hat); have n1_ := Ext.a (Kd.V_afterv (ok := (fun k_ => some k_ ≠ (.slice (some ad252) t249.length co20 : Value).ownBlock)) (Ext.nV (Kd.V_mono HL252_0.out (fun _ hk => ⟨hk.2, hk.1⟩))) hg hat); have n2_ := Ext.a (Kd.V_afterv (ok := (fun k_ => some k_ ≠ (.slice (some ad252) t249.length co20 : Value).ownBlock)) (Ext.nV (Kd.V_mono HL264_1.out (fun _ hk => ⟨hk.2, hk.1⟩))) hg hat); have n3_ := Ext.a (Kd.V_afterv (ok := (fun k_ => some k_ ≠ (.slice (some ad252) t249.length co20 : Value).ownBlock)) (Ext.nV (Kd.V_mono HL264_2.out (fun _ hk => ⟨hk.2, hk.1⟩))) hg hat); have n4_ := Ext.a (Kd.V_afterv (ok := (fun k_ => some k_ ≠ (.slice (some ad252) t249.length co20 : Value).ownBlock)) (Ext.nV (Kd.V_mono HL264_8.out (fun _ hk => ⟨hk.2, hk.1⟩))) hg hat); have n5_ := Ext.a (Kd.V_afterv (ok := (fun k_ => some k_ ≠ (.slice (some ad252) t249.length co20 : Value).ownBlock)) (Ext.nV (Kd.V_mono HL264_9.out (fun _ hk => ⟨hk.2, hk.1⟩))) hg hat); have n6_ := Ext.a (Kd.V_afterv (ok := (fun k_ => some k_ ≠ (.slice (some ad252) t249.length co20 : Value).ownBlock)) (Ext.nV (Kd.V_mono HL265_1.out (fun _ hk => ⟨hk.2, hk.1⟩))) hg hat); have n7_ := Ext.a (Kd.V_afterv (ok := (fun k_ => some k_ ≠ (.slice (some ad252) t249.length co20 : Value).ownBlock)) (Ext.nV (Kd.V_mono HL265_2.out (fun _ hk => ⟨hk.2, hk.1⟩))) hg hat); have n8_ := Ext.a (Kd.V_afterv (ok := (fun k_ => some k_ ≠ (.slice (some ad252) t249.length co20 : Value).ownBlock)) (Ext.nV (Kd.V_mono HL265_8.out (fun _ hk => ⟨hk.2, hk.1⟩))) hg hat); have n9_ := Ext.a (Kd.V_afterv (ok := (fun k_ => some k_ ≠ (.slice (some ad252) t249.length co20 : Value).ownBlock)) (Ext.nV (Kd.V_mono HL265_9.out (fun _ hk => ⟨hk.2, hk.1⟩))) hg hat); have n10_ := Ext.a (Kd.V_afterv (ok := (fun k_ => some k_ ≠ (.slice (some ad252) t249.length co20 : Value).ownBlock)) (Ext.nV (Kd.V_mono HL266_1.out (fun _ hk => ⟨hk.2, hk.1⟩))) hg hat); have n11_ := Ext.a (Kd.V_afterv (ok := (fun k_ => some k_ ≠ (.slice (some ad252) t249.length co20 : Value).ownBlock)) (Ext.nV (Kd.V_mono HL266_2.out (fun _ hk => ⟨hk.2, hk.1⟩))) hg hat); have n12_ := Ext.a (Kd.V_afterv (ok := (fun k_ => some k_ ≠ (.slice (some ad252) t249.length co20 : Value).ownBlock)) (Ext.nV (Kd.V_mono HL266_8.out (fun _ hk => ⟨hk.2, hk.1⟩))) hg hat); have n13_ := Ext.a (Kd.V_afterv (ok := (fun k_ => some k_ ≠ (.slice (some ad252) t249.length co20 : Value).ownBlock)) (Ext.nV (Kd.V_mono HL266_9.out (fun _ hk => ⟨hk.2, hk.1⟩))) hg hat); have n14_ := Ext.a (hb); have n15_ := Ext.a (ho); clear HO_24 HL252_0 HL264_1 HL264_2 HL264_8 HL264_9 HL265_1 HL265_2 HL265_8 HL265_9 HL266_1 HL266_2 HL266_8 HL266_9 HB HO_5; have HO_24 := n0_; have HL252_0 := n1_; have HL264_1 := n2_; have HL264_2 := n3_; have HL264_8 := n4_; have HL264_9 := n5_; have HL265_1 := n6_; have HL265_2 := n7_; have HL265_8 := n8_; have HL265_9 := n9_; have HL266_1 := n10_; have HL266_2 := n11_; have HL266_8 := n12_; have HL266_9 := n13_; have HB := n14_; have HO269 := n15_; clear n0_ n1_ n2_ n3_ n4_ n5_ n6_ n7_ n8_ n9_ n10_ n11_ n12_ n13_ n14_ n15_; clear ho hb hg hat)); try go_wp2_with (first | ((with_reducible refine gate_builtin (b := .append) (xs := #[.tmp 78, .tmp 79]) rfl ?_); (try (refine gate_guard (by rfl) ?_; dsimp only)); at_builtin; refine Kd.N_append_rows k38 (w0 := w) w.heap.size rfl (.tmp 78) (.tmp 79) 22 38 (.agg #[(.int .i64 0), (.slice none 0 0), (.slice none 0 0), (.int .i64 0), (.int .i64 0), (.int .i64 0), (.int .i64 0), (.bool false), (.slice none 0 0), (.slice none 0 0), (.int .i64 0), (.int .i64 0), (.int .i64 0), (.int .i64 0)]) 176 rfl Try.underlying22 info38 rfl (by decide) (by omega) u5 x5_2 (rd_L6 t249 x26_2) _ _ _ (fun k_ => some k_ ≠ (.slice (some ad252) t249.length co20 : Value).ownBlock) (fun k_ => ((fun k_ => some k_ ≠ (.slice (some ad252) t249.length co20 : Value).ownBlock)) k_ ∧ some k_ ≠ (u5 : Value).ownBlock) rfl rfl ?aO ?aR (fun _ hk => hk) ?aF ?aB ?aS ?aL ?_; (case aR => exact (by skip; exact Kd.V_F (Kd.V_mono (ok' := (fun k_ => ((fun k_ => some k_ ≠ (.slice (some ad252) t249.length co20 : Value).ownBlock)) k_ ∧ some k_ ≠ (u5 : Value).ownBlock)) (Ext.nV HL252_0.out) (fun k_ hk => ⟨hk.2, hk.1⟩)))); (case aB => exact (Ext.nB HB.out)); (case aF => exact (fun k_ hk => Kd.fresh' (Kd.N_lt (Ext.nN HO_24.out)) k_ hk)); (case aO => exact (Ext.nN HO_5.out)); (case aS => exact (below_size (Ext.nB HB.out))); (case aL => have := LMc48.out; omega); intro v268 w49 ho hb hg hat; rw [← Ny267.out] at ho; have n0_ := Ext.a (Kd.N_afterv (ok := (fun _ => True)) (Ext.nN (Kd.N_mono HO_24.out (fun _ hk => ⟨trivial, hk⟩))) hg hat); have n1_ := Ext.a (Kd.V_afterv (ok := (fun k_ => some k_ ≠ (.slice (some ad252) t249.length co20 : Value).ownBlock)) (Ext.nV (Kd.V_mono HL252_0.out (fun _ hk => ⟨hk.2, hk.1⟩))) hg hat); have n2_ := Ext.a (Kd.V_afterv (ok := (fun k_ => some k_ ≠ (.slice (some ad252) t249.length co20 : Value).ownBlock)) (Ext.nV (Kd.V_mono HL264_1.out (fun _ hk => ⟨hk.2, hk.1⟩))) hg hat); have n3_ := Ext.a (Kd.V_afterv (ok := (fun k_ => some k_ ≠ (.slice (some ad252) t249.length co20 : Value).ownBlock)) (Ext.nV (Kd.V_mono HL264_2.out (fun _ hk => ⟨hk.2, hk.1⟩))) hg hat); have n4_ := Ext.a (Kd.V_afterv (ok := (fun k_ => some k_ ≠ (.slice (some ad252) t249.length co20 : Value).ownBlock)) (Ext.nV (Kd.V_mono HL264_8.out (fun _ hk => ⟨hk.2, hk.1⟩))) hg hat); have n5_ := Ext.a (Kd.V_afterv (ok := (fun k_ => some k_ ≠ (.slice (some ad252) t249.length co20 : Value).ownBlock)) (Ext.nV (Kd.V_mono HL264_9.out (fun _ hk => ⟨hk.2, hk.1⟩))) hg hat); have n6_ := Ext.a (Kd.V_afterv (ok := (fun k_ => some k_ ≠ (.slice (some ad252) t249.length co20 : Value).ownBlock)) (Ext.nV (Kd.V_mono HL265_1.out (fun _ hk => ⟨hk.2, hk.1⟩))) hg hat); have n7_ := Ext.a (Kd.V_afterv (ok := (fun k_ => some k_ ≠ (.slice (some ad252) t249.length co20 : Value).ownBlock)) (Ext.nV (Kd.V_mono HL265_2.out (fun _ hk => ⟨hk.2, hk.1⟩))) hg hat); have n8_ := Ext.a (Kd.V_afterv (ok := (fun k_ => some k_ ≠ (.slice (some ad252) t249.length co20 : Value).ownBlock)) (Ext.nV (Kd.V_mono HL265_8.out (fun _ hk => ⟨hk.2, hk.1⟩))) hg hat); have n9_ := Ext.a (Kd.V_afterv (ok := (fun k_ => some k_ ≠ (.slice (some ad252) t249.length co20 : Value).ownBlock)) (Ext.nV (Kd.V_mono HL265_9.out (fun _ hk => ⟨hk.2, hk.1⟩))) hg hat); have n10_ := Ext.a (Kd.V_afterv (ok := (fun k_ => some k_ ≠ (.slice (some ad252) t249.length co20 : Value).ownBlock)) (Ext.nV (Kd.V_mono HL266_1.out (fun _ hk => ⟨hk.2, hk.1⟩))) hg hat); have n11_ := Ext.a (Kd.V_afterv (ok := (fun k_ => some k_ ≠ (.slice (some ad252) t249.length co20 : Value).ownBlock)) (Ext.nV (Kd.V_mono HL266_2.out (fun _ hk => ⟨hk.2, hk.1⟩))) hg hat); have n12_ := Ext.a (Kd.V_afterv (ok := (fun k_ => some k_ ≠ (.slice (some ad252) t249.length co20 : Value).ownBlock)) (Ext.nV (Kd.V_mono HL266_8.out (fun _ hk => ⟨hk.2, hk.1⟩))) hg hat); have n13_ := Ext.a (Kd.V_afterv (ok := (fun k_ => some k_ ≠ (.slice (some ad252) t249.length co20 : Value).ownBlock)) (Ext.nV (Kd.V_mono HL266_9.out (fun _ hk => ⟨hk.2, hk.1⟩))) hg hat); have n14_ := Ext.a (hb); have n15_ := Ext.a (ho); clear HO_24 HL252_0 HL264_1 HL264_2 HL264_8 HL264_9 HL265_1 HL265_2 HL265_8 HL265_9 HL266_1 HL266_2 HL266_8 HL266_9 HB HO_5; have HO_24 := n0_; have HL252_0 := n1_; have HL264_1 := n2_; have HL264_2 := n3_; have HL264_8 := n4_; have HL264_9 := n5_; have HL265_1 := n6_; have HL265_2 := n7_; have HL265_8 := n8_; have HL265_9 := n9_; have HL266_1 := n10_; have HL266_2 := n11_; have HL266_8 := n12_; have HL266_9 := n13_; have HB := n14_; have HO269 := n15_; clear n0_ n1_ n2_ n3_ n4_ n5_ n6_ n7_ n8_ n9_ n10_ n11_ n12_ n13_ n14_ n15_; clear ho hb hg hat)))
                 go_roundg k2
                 case measure => have := HJ2.out; have := HK2.out; omega
                 case rel => exact ⟨(y267), ((rd_T38 (rd_L6 t249 x26_2) (ji44)).f1.f3), (wrap64 (x26_2 + 1)), (by first | rfl | (simp; done) | (simp only [← hji44] <;> (first | rfl | simp)) | (simp [*]; done)), (by first | rfl | (simp; done) | (simp [*]; done)), H', ⟨by have := HJ2.out; have := HK2.out; omega⟩, ⟨by (with_reducible repeat (first | apply Kd.N_alloc | apply Kd.N_drewN | apply Kd.N_drew)); exact HO269.out⟩, ⟨by (with_reducible repeat (first | apply Kd.N_alloc | apply Kd.N_drewN | apply Kd.N_drew)); exact Kd.N_mono HO_24.out (fun _ hk => hk.2)⟩, ⟨by repeat (first | (with_reducible first | exact HB.out | apply Ext.ba | apply Ext.bn | apply Ext.bd) | exact HB.out | exact .refl _ _)⟩⟩
                · rw [if_neg c48] at H; exact absurd H (by simp)
               ·
                rw [if_neg c47] at H
                have c47b0 : (((rd_T38 (rd_L6 t249 x26_2) 0).f1.f3) == ((rd_T38 (rd_L6 t249 x26_2) (ji44)).f1.f3)) = false := beq_eq_false_iff_ne.mpr c47
                have c47b1 : (((rd_T38 (rd_L6 t249 x26_2) 0).f1.f3) != ((rd_T38 (rd_L6 t249 x26_2) (ji44)).f1.f3)) = true := bne_iff_ne.mpr c47
                obtain rfl := Option.some.inj H
                have p252 : 0 ≤ (x26_2 : Int) := of_decide_eq_true (by first | (with_reducible assumption) | assumption)
                have q252 : x26_2 < (t249.length : Int) := of_decide_eq_true (by first | (with_reducible assumption) | assumption)
                obtain ⟨ad252, A252_0, c252_0, e252, hx252_0, hl252_0, hi252_0⟩ := at_L6 (Kd.N_reads' HO_24.out).2.2 x26_2 p252 q252
                cases e252
                obtain ⟨ce252, hce252, hMe252, hcc252⟩ := Kd.N_get HO_24.out [] x26_2 p252 (by first | exact q252 | exact of_decide_eq_true (by first | (with_reducible assumption) | assumption) | (have e_ := (Kd.N_reads' HO_24.out).1; omega))
                obtain ⟨ua252_0, uc252_0, rfl, ul252_0, ge252_0⟩ := Kd.FK_slice_open hMe252
                have hv252_0 := hcc252 0 _ rfl
                rw [Nat.add_zero, show ((Kd.slice 38 k38)).sz = 1 from rfl, Nat.mul_one] at hv252_0
                replace hv252_0 := Option.some.inj (hv252_0.symm.trans hx252_0)
                injection hv252_0 with hva_ hvn_ hvc_
                rw [hva_] at ge252_0
                rw [hvc_] at ul252_0
                have HL252_0 := Ext.a (show Kd.V k38 38 _ w.heap.size _ _ (rd_L6 t249 x26_2) from Kd.V_mk ul252_0 ge252_0)
                clear hva_ hvn_ hvc_ ge252_0 ul252_0
                clear hcc252 hce252
                have HR252_0 := Aside0.mk hi252_0
                have HC252_0 := Aside0.mk hl252_0
                clear hi252_0 hl252_0
                replace p252 := eq_true p252
                replace q252 := eq_true q252
                have p264 : 0 ≤ (0 : Int) := (by omega)
                have q264 : 0 < ((rd_L6 t249 x26_2).length : Int) := of_decide_eq_true (by first | (with_reducible assumption) | assumption)
                obtain ⟨ad264, A264_1, c264_1, A264_2, c264_2, A264_8, c264_8, A264_9, c264_9, e264, hx264_0, hx264_1, hx264_2, hx264_3, hx264_4, hx264_5, hx264_6, hx264_7, hx264_8, hx264_9, hx264_10, hx264_11, hx264_12, hx264_13, hl264_1, hi264_1, hl264_2, hi264_2, hl264_8, hi264_8, hl264_9, hi264_9⟩ := at_T38 (by repeat (first | (with_reducible exact HR252_0.out) | (with_reducible refine Kd.C_alloc ?_ _) | (with_reducible refine Kd.C_drewN ?_ _) | (with_reducible refine Kd.C_drew ?_) | exact HR252_0.out)) 0 p264 q264
                cases e264
                obtain ⟨ce264, hce264, hMe264, hcc264⟩ := Kd.V_get HL252_0.out z38 0 p264 (by first | exact q264 | exact of_decide_eq_true (by first | (with_reducible assumption) | assumption) | (have e_ := (Kd.V_reads' HL252_0.out).1; omega))
                obtain ⟨ua264_1, uc264_1, ua264_2, uc264_2, ua264_8, uc264_8, ua264_9, uc264_9, rfl, ul264_1, ge264_1, ul264_2, ge264_2, ul264_8, ge264_8, ul264_9, ge264_9⟩ := k38_openF hMe264
                have hv264_1 := hcc264 1 _ rfl
                rw [add_field _ _ 1 (by omega)] at hv264_1
                replace hv264_1 := Option.some.inj (hv264_1.symm.trans hx264_1)
                injection hv264_1 with hva_ hvn_ hvc_
                rw [hva_] at ge264_1
                rw [hvc_] at ul264_1
                have HL264_1 := Ext.a (show Kd.V (Kd.int .u8) 5 _ w.heap.size _ _ ((rd_T38 (rd_L6 t249 x26_2) 0).f1.f0) from Kd.V_mk ul264_1 ge264_1)
                clear hva_ hvn_ hvc_ ge264_1 ul264_1
                have hv264_2 := hcc264 2 _ rfl
                rw [add_field _ _ 2 (by omega)] at hv264_2
                replace hv264_2 := Option.some.inj (hv264_2.symm.trans hx264_2)
                injection hv264_2 with hva_ hvn_ hvc_
                rw [hva_] at ge264_2
                rw [hvc_] at ul264_2
                have HL264_2 := Ext.a (show Kd.V (Kd.int .u8) 5 _ w.heap.size _ _ ((rd_T38 (rd_L6 t249 x26_2) 0).f1.f1) from Kd.V_mk ul264_2 ge264_2)
                clear hva_ hvn_ hvc_ ge264_2 ul264_2
                have hv264_8 := hcc264 8 _ rfl
                rw [add_field _ _ 8 (by omega)] at hv264_8
                replace hv264_8 := Option.some.inj (hv264_8.symm.trans hx264_8)
                injection hv264_8 with hva_ hvn_ hvc_
                rw [hva_] at ge264_8
                rw [hvc_] at ul264_8
                have HL264_8 := Ext.a (show Kd.V (Kd.int .u8) 5 _ w.heap.size _ _ ((rd_T38 (rd_L6 t249 x26_2) 0).f3.f0) from Kd.V_mk ul264_8 ge264_8)
                clear hva_ hvn_ hvc_ ge264_8 ul264_8
                have hv264_9 := hcc264 9 _ rfl
                rw [add_field _ _ 9 (by omega)] at hv264_9
                replace hv264_9 := Option.some.inj (hv264_9.symm.trans hx264_9)
                injection hv264_9 with hva_ hvn_ hvc_
                rw [hva_] at ge264_9
                rw [hvc_] at ul264_9
                have HL264_9 := Ext.a (show Kd.V (Kd.int .u8) 5 _ w.heap.size _ _ ((rd_T38 (rd_L6 t249 x26_2) 0).f3.f1) from Kd.V_mk ul264_9 ge264_9)
                clear hva_ hvn_ hvc_ ge264_9 ul264_9
                clear hcc264 hce264
                have qi264 : (0 < (rd_L6 t249 x26_2).length) = True := eq_true (by omega)
                (try rw [show ((0 : Int)).toNat = 0 from rfl] at hx264_0)
                (try rw [show 0 * 14 = 0 from rfl] at hx264_0)
                (try rw [Addr.add_zero'] at hx264_0)
                (try rw [show ((0 : Int)).toNat = 0 from rfl] at hx264_1)
                (try rw [show 0 * 14 = 0 from rfl] at hx264_1)
                (try rw [Addr.add_zero'] at hx264_1)
                (try rw [show ((0 : Int)).toNat = 0 from rfl] at hx264_2)
                (try rw [show 0 * 14 = 0 from rfl] at hx264_2)
                (try rw [Addr.add_zero'] at hx264_2)
                (try rw [show ((0 : Int)).toNat = 0 from rfl] at hx264_3)
                (try rw [show 0 * 14 = 0 from rfl] at hx264_3)
                (try rw [Addr.add_zero'] at hx264_3)
                (try rw [show ((0 : Int)).toNat = 0 from rfl] at hx264_4)
                (try rw [show 0 * 14 = 0 from rfl] at hx264_4)
                (try rw [Addr.add_zero'] at hx264_4)
                (try rw [show ((0 : Int)).toNat = 0 from rfl] at hx264_5)
                (try rw [show 0 * 14 = 0 from rfl] at hx264_5)
                (try rw [Addr.add_zero'] at hx264_5)
                (try rw [show ((0 : Int)).toNat = 0 from rfl] at hx264_6)
                (try rw [show 0 * 14 = 0 from rfl] at hx264_6)
                (try rw [Addr.add_zero'] at hx264_6)
                (try rw [show ((0 : Int)).toNat = 0 from rfl] at hx264_7)
                (try rw [show 0 * 14 = 0 from rfl] at hx264_7)
                (try rw [Addr.add_zero'] at hx264_7)
                (try rw [show ((0 : Int)).toNat = 0 from rfl] at hx264_8)
                (try rw [show 0 * 14 = 0 from rfl] at hx264_8)
                (try rw [Addr.add_zero'] at hx264_8)
                (try rw [show ((0 : Int)).toNat = 0 from rfl] at hx264_9)
                (try rw [show 0 * 14 = 0 from rfl] at hx264_9)
                (try rw [Addr.add_zero'] at hx264_9)
                (try rw [show ((0 : Int)).toNat = 0 from rfl] at hx264_10)
                (try rw [show 0 * 14 = 0 from rfl] at hx264_10)
                (try rw [Addr.add_zero'] at hx264_10)
                (try rw [show ((0 : Int)).toNat = 0 from rfl] at hx264_11)
                (try rw [show 0 * 14 = 0 from rfl] at hx264_11)
                (try rw [Addr.add_zero'] at hx264_11)
                (try rw [show ((0 : Int)).toNat = 0 from rfl] at hx264_12)
                (try rw [show 0 * 14 = 0 from rfl] at hx264_12)
                (try rw [Addr.add_zero'] at hx264_12)
                (try rw [show ((0 : Int)).toNat = 0 from rfl] at hx264_13)
                (try rw [show 0 * 14 = 0 from rfl] at hx264_13)
                (try rw [Addr.add_zero'] at hx264_13)
                have HR264_1 := Aside0.mk hi264_1
                have HC264_1 := Aside0.mk hl264_1
                clear hi264_1 hl264_1
                have HR264_2 := Aside0.mk hi264_2
                have HC264_2 := Aside0.mk hl264_2
                clear hi264_2 hl264_2
                have HR264_8 := Aside0.mk hi264_8
                have HC264_8 := Aside0.mk hl264_8
                clear hi264_8 hl264_8
                have HR264_9 := Aside0.mk hi264_9
                have HC264_9 := Aside0.mk hl264_9
                clear hi264_9 hl264_9
                replace p264 := eq_true p264
                replace q264 := eq_true q264
                have p265 : 0 ≤ ((ji44) : Int) := of_decide_eq_true (by first | (with_reducible assumption) | assumption)
                have q265 : (ji44) < ((rd_L6 t249 x26_2).length : Int) := of_decide_eq_true (by first | (with_reducible assumption) | assumption)
                obtain ⟨ad265, A265_1, c265_1, A265_2, c265_2, A265_8, c265_8, A265_9, c265_9, e265, hx265_0, hx265_1, hx265_2, hx265_3, hx265_4, hx265_5, hx265_6, hx265_7, hx265_8, hx265_9, hx265_10, hx265_11, hx265_12, hx265_13, hl265_1, hi265_1, hl265_2, hi265_2, hl265_8, hi265_8, hl265_9, hi265_9⟩ := at_T38 (by repeat (first | (with_reducible exact HR252_0.out) | (with_reducible refine Kd.C_alloc ?_ _) | (with_reducible refine Kd.C_drewN ?_ _) | (with_reducible refine Kd.C_drew ?_) | exact HR252_0.out)) (ji44) p265 q265
                obtain rfl : ad264 = ad265 := (by injection e265)
                obtain ⟨ce265, hce265, hMe265, hcc265⟩ := Kd.V_get HL252_0.out z38 (ji44) p265 (by first | exact q265 | exact of_decide_eq_true (by first | (with_reducible assumption) | assumption) | (have e_ := (Kd.V_reads' HL252_0.out).1; omega))
                obtain ⟨ua265_1, uc265_1, ua265_2, uc265_2, ua265_8, uc265_8, ua265_9, uc265_9, rfl, ul265_1, ge265_1, ul265_2, ge265_2, ul265_8, ge265_8, ul265_9, ge265_9⟩ := k38_openF hMe265
                have hv265_1 := hcc265 1 _ rfl
                rw [add_field _ _ 1 (by omega)] at hv265_1
                replace hv265_1 := Option.some.inj (hv265_1.symm.trans hx265_1)
                injection hv265_1 with hva_ hvn_ hvc_
                rw [hva_] at ge265_1
                rw [hvc_] at ul265_1
                have HL265_1 := Ext.a (show Kd.V (Kd.int .u8) 5 _ w.heap.size _ _ ((rd_T38 (rd_L6 t249 x26_2) (ji44)).f1.f0) from Kd.V_mk ul265_1 ge265_1)
                clear hva_ hvn_ hvc_ ge265_1 ul265_1
                have hv265_2 := hcc265 2 _ rfl
                rw [add_field _ _ 2 (by omega)] at hv265_2
                replace hv265_2 := Option.some.inj (hv265_2.symm.trans hx265_2)
                injection hv265_2 with hva_ hvn_ hvc_
                rw [hva_] at ge265_2
                rw [hvc_] at ul265_2
                have HL265_2 := Ext.a (show Kd.V (Kd.int .u8) 5 _ w.heap.size _ _ ((rd_T38 (rd_L6 t249 x26_2) (ji44)).f1.f1) from Kd.V_mk ul265_2 ge265_2)
                clear hva_ hvn_ hvc_ ge265_2 ul265_2
                have hv265_8 := hcc265 8 _ rfl
                rw [add_field _ _ 8 (by omega)] at hv265_8
                replace hv265_8 := Option.some.inj (hv265_8.symm.trans hx265_8)
                injection hv265_8 with hva_ hvn_ hvc_
                rw [hva_] at ge265_8
                rw [hvc_] at ul265_8
                have HL265_8 := Ext.a (show Kd.V (Kd.int .u8) 5 _ w.heap.size _ _ ((rd_T38 (rd_L6 t249 x26_2) (ji44)).f3.f0) from Kd.V_mk ul265_8 ge265_8)
                clear hva_ hvn_ hvc_ ge265_8 ul265_8
                have hv265_9 := hcc265 9 _ rfl
                rw [add_field _ _ 9 (by omega)] at hv265_9
                replace hv265_9 := Option.some.inj (hv265_9.symm.trans hx265_9)
                injection hv265_9 with hva_ hvn_ hvc_
                rw [hva_] at ge265_9
                rw [hvc_] at ul265_9
                have HL265_9 := Ext.a (show Kd.V (Kd.int .u8) 5 _ w.heap.size _ _ ((rd_T38 (rd_L6 t249 x26_2) (ji44)).f3.f1) from Kd.V_mk ul265_9 ge265_9)
                clear hva_ hvn_ hvc_ ge265_9 ul265_9
                clear hcc265 hce265
                have HR265_1 := Aside0.mk hi265_1
                have HC265_1 := Aside0.mk hl265_1
                clear hi265_1 hl265_1
                have HR265_2 := Aside0.mk hi265_2
                have HC265_2 := Aside0.mk hl265_2
                clear hi265_2 hl265_2
                have HR265_8 := Aside0.mk hi265_8
                have HC265_8 := Aside0.mk hl265_8
                clear hi265_8 hl265_8
                have HR265_9 := Aside0.mk hi265_9
                have HC265_9 := Aside0.mk hl265_9
                clear hi265_9 hl265_9
                replace p265 := eq_true p265
                replace q265 := eq_true q265
                go_wp2
                repeat (go_quiet (fail); try go_wp2)
                go_ret
                exact ⟨by first | rfl | (simp [errW_none, errW_some] <;> rfl) | (simp only [← hji41, ← hji44]; first | rfl | (simp [errW_none, errW_some] <;> rfl)) | (simp [*, errW_none, errW_some] <;> rfl), by repeat (first | (with_reducible first | exact HB.out | apply Ext.ba | apply Ext.bn | apply Ext.bd) | exact HB.out | exact .refl _ _)⟩
              · rw [if_neg c46] at H; exact absurd H (by simp)
             · rw [if_neg c45] at H; exact absurd H (by simp)
            · rw [if_neg c43] at H; exact absurd H (by simp)
           ·
            rw [if_neg c42] at H
            have c42b0 : decide ((ji41) < ((rd_L6 t249 x26_2).length : Int)) = false := decide_eq_false c42
            clear c42
            obtain ⟨ji50, hji50⟩ : ∃ j_ : Int, (wrap64 (((rd_L6 t249 x26_2).length : Int) - 1)) = j_ := ⟨_, rfl⟩
            replace H : (if 0 ≤ (ji50) then (if (ji50) < ((rd_L6 t249 x26_2).length : Int) then (if x5_2.length + (rd_L6 t249 x26_2).length < 799644820200 then (terrierlaw17_BatchWhole.l0 k2 l0 a1 (x5_2 ++ (rd_L6 t249 x26_2)) ((rd_T38 (rd_L6 t249 x26_2) (ji50)).f1.f3) t249 (t249.length : Int) (wrap64 (x26_2 + 1))) else (none)) else (none)) else (none)) = some r := by first | (rw [hji50] at H; exact H) | (simp only [hji50] at H ⊢; exact H)
            have hji50w : (IntKind.i64.wrap (((rd_L6 t249 x26_2).length : Int) - 1)) = ji50 := (i64_w _).trans hji50
            by_cases c51 : 0 ≤ (ji50)
            ·
             rw [if_pos c51] at H
             have c51b0 : decide (0 ≤ (ji50)) = true := decide_eq_true c51
             clear c51
             by_cases c52 : (ji50) < ((rd_L6 t249 x26_2).length : Int)
             ·
              rw [if_pos c52] at H
              have c52b0 : decide ((ji50) < ((rd_L6 t249 x26_2).length : Int)) = true := decide_eq_true c52
              clear c52
              by_cases c53 : x5_2.length + (rd_L6 t249 x26_2).length < 799644820200
              ·
               rw [if_pos c53] at H
               have LMc53 := Aside0.mk c53
               clear c53
               obtain ⟨y271, hy271⟩ : ∃ y_ : List (S38), y_ = (x5_2 ++ (rd_L6 t249 x26_2)) := ⟨_, rfl⟩
               replace H : (terrierlaw17_BatchWhole.l0 k2 l0 a1 y271 ((rd_T38 (rd_L6 t249 x26_2) (ji50)).f1.f3) t249 (t249.length : Int) (wrap64 (x26_2 + 1))) = some r := by first | (rw [hy271]; with_reducible exact H) | (have H2_ := (Option.bind_some _ _).symm.trans H; rw [hy271]; with_reducible exact H2_) | (have H2_ := (Option.bind_some _ _).symm.trans H; with_reducible exact H2_) | with_reducible exact H | (rw [hy271]; exact H) | exact H
               have Ny271 := Aside0.mk hy271
               clear hy271
               have H' := Aside0.mk H
               clear H
               have p252 : 0 ≤ (x26_2 : Int) := of_decide_eq_true (by first | (with_reducible assumption) | assumption)
               have q252 : x26_2 < (t249.length : Int) := of_decide_eq_true (by first | (with_reducible assumption) | assumption)
               obtain ⟨ad252, A252_0, c252_0, e252, hx252_0, hl252_0, hi252_0⟩ := at_L6 (Kd.N_reads' HO_24.out).2.2 x26_2 p252 q252
               cases e252
               obtain ⟨ce252, hce252, hMe252, hcc252⟩ := Kd.N_get HO_24.out [] x26_2 p252 (by first | exact q252 | exact of_decide_eq_true (by first | (with_reducible assumption) | assumption) | (have e_ := (Kd.N_reads' HO_24.out).1; omega))
               obtain ⟨ua252_0, uc252_0, rfl, ul252_0, ge252_0⟩ := Kd.FK_slice_open hMe252
               have hv252_0 := hcc252 0 _ rfl
               rw [Nat.add_zero, show ((Kd.slice 38 k38)).sz = 1 from rfl, Nat.mul_one] at hv252_0
               replace hv252_0 := Option.some.inj (hv252_0.symm.trans hx252_0)
               injection hv252_0 with hva_ hvn_ hvc_
               rw [hva_] at ge252_0
               rw [hvc_] at ul252_0
               have HL252_0 := Ext.a (show Kd.V k38 38 _ w.heap.size _ _ (rd_L6 t249 x26_2) from Kd.V_mk ul252_0 ge252_0)
               clear hva_ hvn_ hvc_ ge252_0 ul252_0
               clear hcc252 hce252
               have HR252_0 := Aside0.mk hi252_0
               have HC252_0 := Aside0.mk hl252_0
               clear hi252_0 hl252_0
               replace p252 := eq_true p252
               replace q252 := eq_true q252
               have p270 : 0 ≤ ((ji50) : Int) := of_decide_eq_true (by first | (with_reducible assumption) | assumption)
               have q270 : (ji50) < ((rd_L6 t249 x26_2).length : Int) := of_decide_eq_true (by first | (with_reducible assumption) | assumption)
               obtain ⟨ad270, A270_1, c270_1, A270_2, c270_2, A270_8, c270_8, A270_9, c270_9, e270, hx270_0, hx270_1, hx270_2, hx270_3, hx270_4, hx270_5, hx270_6, hx270_7, hx270_8, hx270_9, hx270_10, hx270_11, hx270_12, hx270_13, hl270_1, hi270_1, hl270_2, hi270_2, hl270_8, hi270_8, hl270_9, hi270_9⟩ := at_T38 (by repeat (first | (with_reducible exact HR252_0.out) | (with_reducible refine Kd.C_alloc ?_ _) | (with_reducible refine Kd.C_drewN ?_ _) | (with_reducible refine Kd.C_drew ?_) | exact HR252_0.out)) (ji50) p270 q270
               cases e270
               obtain ⟨ce270, hce270, hMe270, hcc270⟩ := Kd.V_get HL252_0.out z38 (ji50) p270 (by first | exact q270 | exact of_decide_eq_true (by first | (with_reducible assumption) | assumption) | (have e_ := (Kd.V_reads' HL252_0.out).1; omega))
               obtain ⟨ua270_1, uc270_1, ua270_2, uc270_2, ua270_8, uc270_8, ua270_9, uc270_9, rfl, ul270_1, ge270_1, ul270_2, ge270_2, ul270_8, ge270_8, ul270_9, ge270_9⟩ := k38_openF hMe270
               have hv270_1 := hcc270 1 _ rfl
               rw [add_field _ _ 1 (by omega)] at hv270_1
               replace hv270_1 := Option.some.inj (hv270_1.symm.trans hx270_1)
               injection hv270_1 with hva_ hvn_ hvc_
               rw [hva_] at ge270_1
               rw [hvc_] at ul270_1
               have HL270_1 := Ext.a (show Kd.V (Kd.int .u8) 5 _ w.heap.size _ _ ((rd_T38 (rd_L6 t249 x26_2) (ji50)).f1.f0) from Kd.V_mk ul270_1 ge270_1)
               clear hva_ hvn_ hvc_ ge270_1 ul270_1
               have hv270_2 := hcc270 2 _ rfl
               rw [add_field _ _ 2 (by omega)] at hv270_2
               replace hv270_2 := Option.some.inj (hv270_2.symm.trans hx270_2)
               injection hv270_2 with hva_ hvn_ hvc_
               rw [hva_] at ge270_2
               rw [hvc_] at ul270_2
               have HL270_2 := Ext.a (show Kd.V (Kd.int .u8) 5 _ w.heap.size _ _ ((rd_T38 (rd_L6 t249 x26_2) (ji50)).f1.f1) from Kd.V_mk ul270_2 ge270_2)
               clear hva_ hvn_ hvc_ ge270_2 ul270_2
               have hv270_8 := hcc270 8 _ rfl
               rw [add_field _ _ 8 (by omega)] at hv270_8
               replace hv270_8 := Option.some.inj (hv270_8.symm.trans hx270_8)
               injection hv270_8 with hva_ hvn_ hvc_
               rw [hva_] at ge270_8
               rw [hvc_] at ul270_8
               have HL270_8 := Ext.a (show Kd.V (Kd.int .u8) 5 _ w.heap.size _ _ ((rd_T38 (rd_L6 t249 x26_2) (ji50)).f3.f0) from Kd.V_mk ul270_8 ge270_8)
               clear hva_ hvn_ hvc_ ge270_8 ul270_8
               have hv270_9 := hcc270 9 _ rfl
               rw [add_field _ _ 9 (by omega)] at hv270_9
               replace hv270_9 := Option.some.inj (hv270_9.symm.trans hx270_9)
               injection hv270_9 with hva_ hvn_ hvc_
               rw [hva_] at ge270_9
               rw [hvc_] at ul270_9
               have HL270_9 := Ext.a (show Kd.V (Kd.int .u8) 5 _ w.heap.size _ _ ((rd_T38 (rd_L6 t249 x26_2) (ji50)).f3.f1) from Kd.V_mk ul270_9 ge270_9)
               clear hva_ hvn_ hvc_ ge270_9 ul270_9
               clear hcc270 hce270
               have HR270_1 := Aside0.mk hi270_1
               have HC270_1 := Aside0.mk hl270_1
               clear hi270_1 hl270_1
               have HR270_2 := Aside0.mk hi270_2
               have HC270_2 := Aside0.mk hl270_2
               clear hi270_2 hl270_2
               have HR270_8 := Aside0.mk hi270_8
               have HC270_8 := Aside0.mk hl270_8
               clear hi270_8 hl270_8
               have HR270_9 := Aside0.mk hi270_9
               have HC270_9 := Aside0.mk hl270_9
               clear hi270_9 hl270_9
               replace p270 := eq_true p270
               replace q270 := eq_true q270
               go_wp2_with (first | ((with_reducible refine gate_builtin (b := .append) (xs := #[.tmp 78, .tmp 79]) rfl ?_); (try (refine gate_guard (by rfl) ?_; dsimp only)); at_builtin; refine Kd.N_append_rows k38 (w0 := w) w.heap.size rfl (.tmp 78) (.tmp 79) 22 38 (.agg #[(.int .i64 0), (.slice none 0 0), (.slice none 0 0), (.int .i64 0), (.int .i64 0), (.int .i64 0), (.int .i64 0), (.bool false), (.slice none 0 0), (.slice none 0 0), (.int .i64 0), (.int .i64 0), (.int .i64 0), (.int .i64 0)]) 176 rfl Try.underlying22 info38 rfl (by decide) (by omega) u5 x5_2 (rd_L6 t249 x26_2) _ _ _ (fun k_ => some k_ ≠ (.slice (some ad252) t249.length co20 : Value).ownBlock) (fun k_ => ((fun k_ => some k_ ≠ (.slice (some ad252) t249.length co20 : Value).ownBlock)) k_ ∧ some k_ ≠ (u5 : Value).ownBlock) rfl rfl ?aO ?aR (fun _ hk => hk) ?aF ?aB ?aS ?aL ?_; (case aR => exact (by skip; exact Kd.V_F (Kd.V_mono (ok' := (fun k_ => ((fun k_ => some k_ ≠ (.slice (some ad252) t249.length co20 : Value).ownBlock)) k_ ∧ some k_ ≠ (u5 : Value).ownBlock)) (Ext.nV HL252_0.out) (fun k_ hk => ⟨hk.2, hk.1⟩)))); (case aB => exact (Ext.nB HB.out)); (case aF => exact (fun k_ hk => Kd.fresh' (Kd.N_lt (Ext.nN HO_24.out)) k_ hk)); (case aO => exact (Ext.nN HO_5.out)); (case aS => exact (below_size (Ext.nB HB.out))); (case aL => have := LMc53.out; omega); intro v272 w54 ho hb hg hat; rw [← Ny271.out] at ho; have n0_ := Ext.a (Kd.N_afterv (ok := (fun _ => True)) (Ext.nN (Kd.N_mono HO_24.out (fun _ hk => ⟨trivial, hk⟩))) hg hat); have n1_ := Ext.a (Kd.V_afterv (ok := (fun k_ => some k_ ≠ (.slice (some ad252) t249.length co20 : Value).ownBlock)) (Ext.nV (Kd.V_mono HL252_0.out (fun _ hk => ⟨hk.2, hk.1⟩))) hg hat); have n2_ := Ext.a (Kd.V_afterv (ok := (fun k_ => some k_ ≠ (.slice (some ad252) t249.length co20 : Value).ownBlock)) (Ext.nV (Kd.V_mono HL270_1.out (fun _ hk => ⟨hk.2, hk.1⟩))) hg hat); have n3_ := Ext.a (Kd.V_afterv (ok := (fun k_ => some k_ ≠ (.slice (some ad252) t249.length co20 : Value).ownBlock)) (Ext.nV (Kd.V_mono HL270_2.out (fun _ hk => ⟨hk.2, hk.1⟩))) hg hat); have n4_ := Ext.a (Kd.V_afterv (ok := (fun k_ => some k_ ≠ (.slice (some ad252) t249.length co20 : Value).ownBlock)) (Ext.nV (Kd.V_mono HL270_8.out (fun _ hk => ⟨hk.2, hk.1⟩))) hg hat); have n5_ := Ext.a (Kd.V_afterv (ok := (fun k_ => some k_ ≠ (.slice (some ad252) t249.length co20 : Value).ownBlock)) (Ext.nV (Kd.V_mono HL270_9.out (fun _ hk => ⟨hk.2, hk.1⟩))) hg hat); have n6_ := Ext.a (hb); have n7_ := Ext.a (ho); clear HO_24 HL252_0 HL270_1 HL270_2 HL270_8 HL270_9 HB HO_5; have HO_24 := n0_; have HL252_0 := n1_; have HL270_1 := n2_; have HL270_2 := n3_; have HL270_8 := n4_; have HL270_9 := n5_; have HB := n6_; have HO273 := n7_; clear n0_ n1_ n2_ n3_ n4_ n5_ n6_ n7_; clear ho hb hg hat))
               repeat (go_quiet (first | ((with_reducible refine gate_builtin (b := .append) (xs := #[.tmp 78, .tmp 79]) rfl ?_); (try (refine gate_guard (by rfl) ?_; dsimp only)); at_builtin; refine Kd.N_append_rows k38 (w0 := w) w.heap.size rfl (.tmp 78) (.tmp 79) 22 38 (.agg #[(.int .i64 0), (.slice none 0 0), (.slice none 0 0), (.int .i64 0), (.int .i64 0), (.int .i64 0), (.int .i64 0), (.bool false), (.slice none 0 0), (.slice none 0 0), (.int .i64 0), (.int .i64 0), (.int .i64 0), (.int .i64 0)]) 176 rfl Try.underlying22 info38 rfl (by decide) (by omega) u5 x5_2 (rd_L6 t249 x26_2) _ _ _ (fun k_ => some k_ ≠ (.slice (some ad252) t249.length co20 : Value).ownBlock) (fun k_ => ((fun k_ => some k_ ≠ (.slice (some ad252) t249.length co20 : Value).ownBlock)) k_ ∧ some k_ ≠ (u5 : Value).ownBlock) rfl rfl ?aO ?aR (fun _ hk => hk) ?aF ?aB ?aS ?aL ?_; (case aR => exact (by skip; exact Kd.V_F (Kd.V_mono (ok' := (fun k_ => ((fun k_ => some k_ ≠ (.slice (some ad252) t249.length co20 : Value).ownBlock)) k_ ∧ some k_ ≠ (u5 : Value).ownBlock)) (Ext.nV HL252_0.out) (fun k_ hk => ⟨hk.2, hk.1⟩)))); (case aB => exact (Ext.nB HB.out)); (case aF => exact (fun k_ hk => Kd.fresh' (Kd.N_lt (Ext.nN HO_24.out)) k_ hk)); (case aO => exact (Ext.nN HO_5.out)); (case aS => exact (below_size (Ext.nB HB.out))); (case aL => have := LMc53.out; omega); intro v272 w54 ho hb hg hat; rw [← Ny271.out] at ho; have n0_ := Ext.a (Kd.N_afterv (ok := (fun _ => True)) (Ext.nN (Kd.N_mono HO_24.out (fun _ hk => ⟨trivial, hk⟩))) hg hat); have n1_ := Ext.a (Kd.V_afterv (ok := (fun k_ => some k_ ≠ (.slice (some ad252) t249.length co20 : Value).ownBlock)) (Ext.nV (Kd.V_mono HL252_0.out (fun _ hk => ⟨hk.2, hk.1⟩))) hg hat); have n2_ := Ext.a (Kd.V_afterv (ok := (fun k_ => some k_ ≠ (.slice (some ad252) t249.length co20 : Value).ownBlock)) (Ext.nV (Kd.V_mono HL270_1.out (fun _ hk => ⟨hk.2, hk.1⟩))) hg hat); have n3_ := Ext.a (Kd.V_afterv (ok := (fun k_ => some k_ ≠ (.slice (some ad252) t249.length co20 : Value).ownBlock)) (Ext.nV (Kd.V_mono HL270_2.out (fun _ hk => ⟨hk.2, hk.1⟩))) hg hat); have n4_ := Ext.a (Kd.V_afterv (ok := (fun k_ => some k_ ≠ (.slice (some ad252) t249.length co20 : Value).ownBlock)) (Ext.nV (Kd.V_mono HL270_8.out (fun _ hk => ⟨hk.2, hk.1⟩))) hg hat); have n5_ := Ext.a (Kd.V_afterv (ok := (fun k_ => some k_ ≠ (.slice (some ad252) t249.length co20 : Value).ownBlock)) (Ext.nV (Kd.V_mono HL270_9.out (fun _ hk => ⟨hk.2, hk.1⟩))) hg hat); have n6_ := Ext.a (hb); have n7_ := Ext.a (ho); clear HO_24 HL252_0 HL270_1 HL270_2 HL270_8 HL270_9 HB HO_5; have HO_24 := n0_; have HL252_0 := n1_; have HL270_1 := n2_; have HL270_2 := n3_; have HL270_8 := n4_; have HL270_9 := n5_; have HB := n6_; have HO273 := n7_; clear n0_ n1_ n2_ n3_ n4_ n5_ n6_ n7_; clear ho hb hg hat)); try go_wp2_with (first | ((with_reducible refine gate_builtin (b := .append) (xs := #[.tmp 78, .tmp 79]) rfl ?_); (try (refine gate_guard (by rfl) ?_; dsimp only)); at_builtin; refine Kd.N_append_rows k38 (w0 := w) w.heap.size rfl (.tmp 78) (.tmp 79) 22 38 (.agg #[(.int .i64 0), (.slice none 0 0), (.slice none 0 0), (.int .i64 0), (.int .i64 0), (.int .i64 0), (.int .i64 0), (.bool false), (.slice none 0 0), (.slice none 0 0), (.int .i64 0), (.int .i64 0), (.int .i64 0), (.int .i64 0)]) 176 rfl Try.underlying22 info38 rfl (by decide) (by omega) u5 x5_2 (rd_L6 t249 x26_2) _ _ _ (fun k_ => some k_ ≠ (.slice (some ad252) t249.length co20 : Value).ownBlock) (fun k_ => ((fun k_ => some k_ ≠ (.slice (some ad252) t249.length co20 : Value).ownBlock)) k_ ∧ some k_ ≠ (u5 : Value).ownBlock) rfl rfl ?aO ?aR (fun _ hk => hk) ?aF ?aB ?aS ?aL ?_; (case aR => exact (by skip; exact Kd.V_F (Kd.V_mono (ok' := (fun k_ => ((fun k_ => some k_ ≠ (.slice (some ad252) t249.length co20 : Value).ownBlock)) k_ ∧ some k_ ≠ (u5 : Value).ownBlock)) (Ext.nV HL252_0.out) (fun k_ hk => ⟨hk.2, hk.1⟩)))); (case aB => exact (Ext.nB HB.out)); (case aF => exact (fun k_ hk => Kd.fresh' (Kd.N_lt (Ext.nN HO_24.out)) k_ hk)); (case aO => exact (Ext.nN HO_5.out)); (case aS => exact (below_size (Ext.nB HB.out))); (case aL => have := LMc53.out; omega); intro v272 w54 ho hb hg hat; rw [← Ny271.out] at ho; have n0_ := Ext.a (Kd.N_afterv (ok := (fun _ => True)) (Ext.nN (Kd.N_mono HO_24.out (fun _ hk => ⟨trivial, hk⟩))) hg hat); have n1_ := Ext.a (Kd.V_afterv (ok := (fun k_ => some k_ ≠ (.slice (some ad252) t249.length co20 : Value).ownBlock)) (Ext.nV (Kd.V_mono HL252_0.out (fun _ hk => ⟨hk.2, hk.1⟩))) hg hat); have n2_ := Ext.a (Kd.V_afterv (ok := (fun k_ => some k_ ≠ (.slice (some ad252) t249.length co20 : Value).ownBlock)) (Ext.nV (Kd.V_mono HL270_1.out (fun _ hk => ⟨hk.2, hk.1⟩))) hg hat); have n3_ := Ext.a (Kd.V_afterv (ok := (fun k_ => some k_ ≠ (.slice (some ad252) t249.length co20 : Value).ownBlock)) (Ext.nV (Kd.V_mono HL270_2.out (fun _ hk => ⟨hk.2, hk.1⟩))) hg hat); have n4_ := Ext.a (Kd.V_afterv (ok := (fun k_ => some k_ ≠ (.slice (some ad252) t249.length co20 : Value).ownBlock)) (Ext.nV (Kd.V_mono HL270_8.out (fun _ hk => ⟨hk.2, hk.1⟩))) hg hat); have n5_ := Ext.a (Kd.V_afterv (ok := (fun k_ => some k_ ≠ (.slice (some ad252) t249.length co20 : Value).ownBlock)) (Ext.nV (Kd.V_mono HL270_9.out (fun _ hk => ⟨hk.2, hk.1⟩))) hg hat); have n6_ := Ext.a (hb); have n7_ := Ext.a (ho); clear HO_24 HL252_0 HL270_1 HL270_2 HL270_8 HL270_9 HB HO_5; have HO_24 := n0_; have HL252_0 := n1_; have HL270_1 := n2_; have HL270_2 := n3_; have HL270_8 := n4_; have HL270_9 := n5_; have HB := n6_; have HO273 := n7_; clear n0_ n1_ n2_ n3_ n4_ n5_ n6_ n7_; clear ho hb hg hat)))
               go_roundg k2
               case measure => have := HJ2.out; have := HK2.out; omega
               case rel => exact ⟨(y271), ((rd_T38 (rd_L6 t249 x26_2) (ji50)).f1.f3), (wrap64 (x26_2 + 1)), (by first | rfl | (simp; done) | (simp only [← hji50] <;> (first | rfl | simp)) | (simp [*]; done)), (by first | rfl | (simp; done) | (simp [*]; done)), H', ⟨by have := HJ2.out; have := HK2.out; omega⟩, ⟨by (with_reducible repeat (first | apply Kd.N_alloc | apply Kd.N_drewN | apply Kd.N_drew)); exact HO273.out⟩, ⟨by (with_reducible repeat (first | apply Kd.N_alloc | apply Kd.N_drewN | apply Kd.N_drew)); exact Kd.N_mono HO_24.out (fun _ hk => hk.2)⟩, ⟨by repeat (first | (with_reducible first | exact HB.out | apply Ext.ba | apply Ext.bn | apply Ext.bd) | exact HB.out | exact .refl _ _)⟩⟩
              · rw [if_neg c53] at H; exact absurd H (by simp)
             · rw [if_neg c52] at H; exact absurd H (by simp)
            · rw [if_neg c51] at H; exact absurd H (by simp)
        · rw [if_neg c23] at H; exact absurd H (by simp)
       · rw [if_neg c22] at H; exact absurd H (by simp)
      ·
       rw [if_neg c21] at H
       have c21b0 : decide (x26_2 < (t249.length : Int)) = false := decide_eq_false c21
       clear c21
       replace H := Option.bind_eq_some_iff.mp H
       obtain ⟨t274, A550, H⟩ := H
       replace H : (if t274 = true then ((batch_Same.f k2 x5_2 l0).bind fun t275 => (some t275)) else (some false)) = some r := H
       have A55 := Aside0.mk A550
       clear A550
       by_cases c56 : t274 = true
       ·
        subst c56
        have H1 : ((batch_Same.f k2 x5_2 l0).bind fun t275 => (some t275)) = some r := by rw [if_pos rfl] at H; exact H
        clear H
        have H := H1
        clear H1
        replace H := Option.bind_eq_some_iff.mp H
        obtain ⟨t275, A570, H⟩ := H
        replace H : (some t275) = some r := H
        have A57 := Aside0.mk A570
        clear A570
        obtain rfl := Option.some.inj H
        obtain ⟨Ao58, co58, eo58⟩ := Kd.N_slice HO_5.out
        subst eo58
        go_wp2_with (first | (go_at_call 10; (with_reducible refine (terrierref17_Same.calls k2 _ _ x5_2 _ _ l0 true _ ?side1 ?side2 ?side3 ?side4 A55.out).mono ?_); (case side1 => exact Ext.nC (Kd.N_reads' HO_5.out).2.2); (case side2 => exact (Kd.N_reads' HO_5.out).2.1); (case side3 => repeat (first | exact (Kd.C_below HR0.out HB.out) | exact HR0.out | (with_reducible refine Kd.C_alloc ?_ _) | (with_reducible refine Kd.C_drewN ?_ _) | (with_reducible refine Kd.C_drew ?_))); (case side4 => exact HC0.out); rintro e w59 ⟨rfl, hb⟩; have n0_ := Ext.a (Kd.N_below (Ext.nN HO_5.out) hb); have n1_ := Ext.a (Kd.N_below (Ext.nN HO_24.out) hb); have n2_ := Ext.a (below_step (Ext.nB HB.out) hb); clear HO_5 HO_24 HB; have HO_5 := n0_; have HO_24 := n1_; have HB := n2_; clear n0_ n1_ n2_; (try clear hb); (try clear hb2); (try clear hk); (try clear hi)) | (go_at_call 9; (with_reducible refine (batch_Same.calls k2 _ _ x5_2 _ _ l0 t275 _ ?side1 ?side2 ?side3 ?side4 A57.out).mono ?_); (case side1 => exact Ext.nC (Kd.N_reads' HO_5.out).2.2); (case side2 => exact (Kd.N_reads' HO_5.out).2.1); (case side3 => repeat (first | exact (Kd.C_below HR0.out HB.out) | exact HR0.out | (with_reducible refine Kd.C_alloc ?_ _) | (with_reducible refine Kd.C_drewN ?_ _) | (with_reducible refine Kd.C_drew ?_))); (case side4 => exact HC0.out); rintro e w60 ⟨rfl, hb⟩; have n0_ := Ext.a (Kd.N_below (Ext.nN HO_5.out) hb); have n1_ := Ext.a (Kd.N_below (Ext.nN HO_24.out) hb); have n2_ := Ext.a (below_step (Ext.nB HB.out) hb); clear HO_5 HO_24 HB; have HO_5 := n0_; have HO_24 := n1_; have HB := n2_; clear n0_ n1_ n2_; (try clear hb); (try clear hb2); (try clear hk); (try clear hi)))
        repeat (go_quiet (first | (go_at_call 10; (with_reducible refine (terrierref17_Same.calls k2 _ _ x5_2 _ _ l0 true _ ?side1 ?side2 ?side3 ?side4 A55.out).mono ?_); (case side1 => exact Ext.nC (Kd.N_reads' HO_5.out).2.2); (case side2 => exact (Kd.N_reads' HO_5.out).2.1); (case side3 => repeat (first | exact (Kd.C_below HR0.out HB.out) | exact HR0.out | (with_reducible refine Kd.C_alloc ?_ _) | (with_reducible refine Kd.C_drewN ?_ _) | (with_reducible refine Kd.C_drew ?_))); (case side4 => exact HC0.out); rintro e w59 ⟨rfl, hb⟩; have n0_ := Ext.a (Kd.N_below (Ext.nN HO_5.out) hb); have n1_ := Ext.a (Kd.N_below (Ext.nN HO_24.out) hb); have n2_ := Ext.a (below_step (Ext.nB HB.out) hb); clear HO_5 HO_24 HB; have HO_5 := n0_; have HO_24 := n1_; have HB := n2_; clear n0_ n1_ n2_; (try clear hb); (try clear hb2); (try clear hk); (try clear hi)) | (go_at_call 9; (with_reducible refine (batch_Same.calls k2 _ _ x5_2 _ _ l0 t275 _ ?side1 ?side2 ?side3 ?side4 A57.out).mono ?_); (case side1 => exact Ext.nC (Kd.N_reads' HO_5.out).2.2); (case side2 => exact (Kd.N_reads' HO_5.out).2.1); (case side3 => repeat (first | exact (Kd.C_below HR0.out HB.out) | exact HR0.out | (with_reducible refine Kd.C_alloc ?_ _) | (with_reducible refine Kd.C_drewN ?_ _) | (with_reducible refine Kd.C_drew ?_))); (case side4 => exact HC0.out); rintro e w60 ⟨rfl, hb⟩; have n0_ := Ext.a (Kd.N_below (Ext.nN HO_5.out) hb); have n1_ := Ext.a (Kd.N_below (Ext.nN HO_24.out) hb); have n2_ := Ext.a (below_step (Ext.nB HB.out) hb); clear HO_5 HO_24 HB; have HO_5 := n0_; have HO_24 := n1_; have HB := n2_; clear n0_ n1_ n2_; (try clear hb); (try clear hb2); (try clear hk); (try clear hi))); try go_wp2_with (first | (go_at_call 10; (with_reducible refine (terrierref17_Same.calls k2 _ _ x5_2 _ _ l0 true _ ?side1 ?side2 ?side3 ?side4 A55.out).mono ?_); (case side1 => exact Ext.nC (Kd.N_reads' HO_5.out).2.2); (case side2 => exact (Kd.N_reads' HO_5.out).2.1); (case side3 => repeat (first | exact (Kd.C_below HR0.out HB.out) | exact HR0.out | (with_reducible refine Kd.C_alloc ?_ _) | (with_reducible refine Kd.C_drewN ?_ _) | (with_reducible refine Kd.C_drew ?_))); (case side4 => exact HC0.out); rintro e w59 ⟨rfl, hb⟩; have n0_ := Ext.a (Kd.N_below (Ext.nN HO_5.out) hb); have n1_ := Ext.a (Kd.N_below (Ext.nN HO_24.out) hb); have n2_ := Ext.a (below_step (Ext.nB HB.out) hb); clear HO_5 HO_24 HB; have HO_5 := n0_; have HO_24 := n1_; have HB := n2_; clear n0_ n1_ n2_; (try clear hb); (try clear hb2); (try clear hk); (try clear hi)) | (go_at_call 9; (with_reducible refine (batch_Same.calls k2 _ _ x5_2 _ _ l0 t275 _ ?side1 ?side2 ?side3 ?side4 A57.out).mono ?_); (case side1 => exact Ext.nC (Kd.N_reads' HO_5.out).2.2); (case side2 => exact (Kd.N_reads' HO_5.out).2.1); (case side3 => repeat (first | exact (Kd.C_below HR0.out HB.out) | exact HR0.out | (with_reducible refine Kd.C_alloc ?_ _) | (with_reducible refine Kd.C_drewN ?_ _) | (with_reducible refine Kd.C_drew ?_))); (case side4 => exact HC0.out); rintro e w60 ⟨rfl, hb⟩; have n0_ := Ext.a (Kd.N_below (Ext.nN HO_5.out) hb); have n1_ := Ext.a (Kd.N_below (Ext.nN HO_24.out) hb); have n2_ := Ext.a (below_step (Ext.nB HB.out) hb); clear HO_5 HO_24 HB; have HO_5 := n0_; have HO_24 := n1_; have HB := n2_; clear n0_ n1_ n2_; (try clear hb); (try clear hb2); (try clear hk); (try clear hi))))
        go_ret
        exact ⟨by first | rfl | (simp [errW_none, errW_some] <;> rfl) | (simp [*, errW_none, errW_some] <;> rfl), by repeat (first | (with_reducible first | exact HB.out | apply Ext.ba | apply Ext.bn | apply Ext.bd) | exact HB.out | exact .refl _ _)⟩
       ·
        replace c56 := Bool.eq_false_iff.mpr c56
        subst c56
        have H1 : (some false) = some r := by rw [if_neg (show ¬ (false = true) by decide)] at H; exact H
        clear H
        have H := H1
        clear H1
        obtain rfl := Option.some.inj H
        obtain ⟨Ao61, co61, eo61⟩ := Kd.N_slice HO_5.out
        subst eo61
        go_wp2_with (first | (go_at_call 10; (with_reducible refine (terrierref17_Same.calls k2 _ _ x5_2 _ _ l0 false _ ?side1 ?side2 ?side3 ?side4 A55.out).mono ?_); (case side1 => exact Ext.nC (Kd.N_reads' HO_5.out).2.2); (case side2 => exact (Kd.N_reads' HO_5.out).2.1); (case side3 => repeat (first | exact (Kd.C_below HR0.out HB.out) | exact HR0.out | (with_reducible refine Kd.C_alloc ?_ _) | (with_reducible refine Kd.C_drewN ?_ _) | (with_reducible refine Kd.C_drew ?_))); (case side4 => exact HC0.out); rintro e w62 ⟨rfl, hb⟩; have n0_ := Ext.a (Kd.N_below (Ext.nN HO_5.out) hb); have n1_ := Ext.a (Kd.N_below (Ext.nN HO_24.out) hb); have n2_ := Ext.a (below_step (Ext.nB HB.out) hb); clear HO_5 HO_24 HB; have HO_5 := n0_; have HO_24 := n1_; have HB := n2_; clear n0_ n1_ n2_; (try clear hb); (try clear hb2); (try clear hk); (try clear hi)))
        repeat (go_quiet (first | (go_at_call 10; (with_reducible refine (terrierref17_Same.calls k2 _ _ x5_2 _ _ l0 false _ ?side1 ?side2 ?side3 ?side4 A55.out).mono ?_); (case side1 => exact Ext.nC (Kd.N_reads' HO_5.out).2.2); (case side2 => exact (Kd.N_reads' HO_5.out).2.1); (case side3 => repeat (first | exact (Kd.C_below HR0.out HB.out) | exact HR0.out | (with_reducible refine Kd.C_alloc ?_ _) | (with_reducible refine Kd.C_drewN ?_ _) | (with_reducible refine Kd.C_drew ?_))); (case side4 => exact HC0.out); rintro e w62 ⟨rfl, hb⟩; have n0_ := Ext.a (Kd.N_below (Ext.nN HO_5.out) hb); have n1_ := Ext.a (Kd.N_below (Ext.nN HO_24.out) hb); have n2_ := Ext.a (below_step (Ext.nB HB.out) hb); clear HO_5 HO_24 HB; have HO_5 := n0_; have HO_24 := n1_; have HB := n2_; clear n0_ n1_ n2_; (try clear hb); (try clear hb2); (try clear hk); (try clear hi))); try go_wp2_with (first | (go_at_call 10; (with_reducible refine (terrierref17_Same.calls k2 _ _ x5_2 _ _ l0 false _ ?side1 ?side2 ?side3 ?side4 A55.out).mono ?_); (case side1 => exact Ext.nC (Kd.N_reads' HO_5.out).2.2); (case side2 => exact (Kd.N_reads' HO_5.out).2.1); (case side3 => repeat (first | exact (Kd.C_below HR0.out HB.out) | exact HR0.out | (with_reducible refine Kd.C_alloc ?_ _) | (with_reducible refine Kd.C_drewN ?_ _) | (with_reducible refine Kd.C_drew ?_))); (case side4 => exact HC0.out); rintro e w62 ⟨rfl, hb⟩; have n0_ := Ext.a (Kd.N_below (Ext.nN HO_5.out) hb); have n1_ := Ext.a (Kd.N_below (Ext.nN HO_24.out) hb); have n2_ := Ext.a (below_step (Ext.nB HB.out) hb); clear HO_5 HO_24 HB; have HO_5 := n0_; have HO_24 := n1_; have HB := n2_; clear n0_ n1_ n2_; (try clear hb); (try clear hb2); (try clear hk); (try clear hi))))
        go_ret
        exact ⟨by first | rfl | (simp [errW_none, errW_some] <;> rfl) | (simp [*, errW_none, errW_some] <;> rfl), by repeat (first | (with_reducible first | exact HB.out | apply Ext.ba | apply Ext.bn | apply Ext.bd) | exact HB.out | exact .refl _ _)⟩

/-- THE ONE PURE STATEMENT of terrierlaw17_BatchWhole: yours. -/
def terrierlaw17_BatchWhole.Pure : Prop := ∀ (l0 : List (S38)) (a1 : Int), (Open.okSlice ok38 176 l0) → ((Lit.int .i64 a1).wf = true) → ∃ k, terrierlaw17_BatchWhole.f k l0 a1 = some true
theorem terrierlaw17_BatchWhole.walk (P : terrierlaw17_BatchWhole.Pure) (A0 : Option Addr) (c0 : Nat) (l0 : List (S38)) (a1 : Int) (w : World) (hk0 : Open.okSlice ok38 176 l0) (hr0 : Kd.C k38 w A0 l0.length l0) (hc0 : l0.length ≤ c0) (hk1 : (Lit.int .i64 a1).wf = true) :
  Calls Try.prog 5 #[.slice A0 l0.length c0, .int .i64 a1] w fun e w' => e = .returned (.bool true) ∧ Below w.heap.size w w' := by
 obtain ⟨k, h⟩ := P l0 a1 hk0 hk1
 refine (terrierlaw17_BatchWhole.calls k _ _ l0 a1 true w hr0 hc0 h).mono ?_
 rintro e w' ⟨rfl, hd⟩
 exact ⟨rfl, hd⟩

end Go.Proofs.Ytdakdlgkhnjhoaa.PW
