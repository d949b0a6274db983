-- Written by wip/printx.py, a program of this work over the kit's print, for this claim.
import Derived.Test.YtandeendeoempaaPMx0
import Derived.Test.YtandeendeoempaaPMx1
import Derived.Test.YtandeendeoempaaPMx4
import Derived.Test.YtandeendeoempaaPMx8
import Derived.Test.YtandeendeoempaaPMx9
namespace Go.Proofs.Ytandeendeoempaa.PM
open Go.RowKit Go.Proofs.YtandeendeoempaaW.PrintWords Go.Proofs.YtandeendeoempaaW.PrintLast Go.Proofs.YtandeendeoempaaW.PrintMore
attribute [local go_sem] max2_int min2_int max_two min_two max_three min_three max_four min_four   -- for this text's walks alone
attribute [local go_sem] Ext.pick_u8 Ext.pick_u32 Ext.pick_u64
set_option linter.unusedVariables false
set_option linter.unusedSimpArgs false

@[reducible] def zb4_0 : Array Bool := #[false, false, false, false, false, false, false, false, false, false, false, false, false, false, false, false, false, false]
@[reducible] def zb4_1 : Array Bool := #[true, false, false, false, false, false, false, false, false, false, false, false, false, false, false, false, false, false]
@[reducible] def zb4_2 : Array Bool := #[true, true, false, false, false, false, false, false, false, false, false, false, false, false, false, false, false, false]
@[reducible] def zb4_3 : Array Bool := #[true, true, true, false, false, false, false, false, false, false, false, false, false, false, false, false, false, false]
@[reducible] def zb4_4 : Array Bool := #[true, true, true, true, true, true, true, true, true, false, false, false, false, false, false, false, false, false]
@[reducible] def zb4_5 : Array Bool := #[true, true, true, true, true, true, true, true, true, true, false, false, false, false, false, false, false, false]
@[reducible] def zb4_6 : Array Bool := #[true, true, true, true, true, true, true, true, true, true, true, false, false, false, false, false, false, false]
@[reducible] def zb4_7 : Array Bool := #[true, true, true, true, true, true, true, true, true, true, true, true, false, false, false, false, false, false]
@[reducible] def zb4_8 : Array Bool := #[true, true, true, true, true, true, true, true, true, true, true, true, true, false, false, false, false, false]
@[reducible] def zb4_9 : Array Bool := #[true, true, true, true, true, true, true, true, true, true, true, true, true, true, false, false, false, false]
@[reducible] def zb4_10 : Array Bool := #[true, true, true, true, true, true, true, true, true, true, true, true, true, true, true, false, false, false]
@[reducible] def zb4_11 : Array Bool := #[true, true, true, true, true, true, true, true, true, true, true, true, true, true, true, true, false, false]
@[reducible] def zb4_12 : Array Bool := #[true, true, true, true, true, true, true, true, true, true, true, true, true, true, true, true, true, false]
@[reducible] def zb4_13 : Array Bool := #[true, true, true, true, true, true, true, true, true, true, true, true, true, true, true, true, true, true]
@[reducible] def zb4_14 : Array Bool := #[true, true, true, false, false, true, false, false, false, false, false, false, false, false, false, false, false, false]
@[reducible] def zb4_15 : Array Bool := #[true, true, true, true, false, true, false, false, false, false, false, false, false, false, false, false, false, false]
@[reducible] def zb4_16 : Array Bool := #[true, true, true, true, false, true, true, false, false, false, false, false, false, false, false, false, false, false]
@[reducible] def zb4_17 : Array Bool := #[true, true, true, true, false, true, true, true, false, false, false, false, false, false, false, false, false, false]
@[reducible] def zb4_18 : Array Bool := #[true, true, true, true, false, true, true, true, true, false, false, false, false, false, false, false, false, false]

/-! ### terrierlaw04_PageUsed: function 4 -/
mutual
def terrierlaw04_PageUsed.j0 : Nat → List Int → Int → Bool → Option (Bool)
 | 0, _, _, _ => none
 | k + 1, x0, x1, x21 => if x21 = true then ((terrierlaw04_lives.f k).bind fun t259 => (some t259)) else (terrierlaw04_PageUsed.l0 k x0 x1 x0 (x0.length : Int) 0 1 0 0 ([] : List (S44)))
def terrierlaw04_PageUsed.l0 : Nat → List Int → Int → List Int → Int → Int → Int → Int → Int → List (S44) → Option (Bool)
 | 0, _, _, _, _, _, _, _, _, _ => none
 | k + 1, x0, x1, x24, x25, x26, x261000, x261001, x261002, x261003 => if x26 < x25 then (if 0 ≤ x26 then (if x26 < (x24.length : Int) then (if 0 ≤ (Int.tmod (wrap64 (rd x24 x26)) 60) then (if (Int.tmod (wrap64 (rd x24 x26)) 60 : Int).toNat ≤ 281474976710656 then ((some (List.replicate (Int.tmod (wrap64 (rd x24 x26)) 60 : Int).toNat 0 : List Int)).bind fun y262 => (if x261003.length < 2199023255552 then (terrierlaw04_PageUsed.l0 k x0 x1 x24 x25 (wrap64 (x26 + 1)) x261000 x261001 x261002 (x261003 ++ [(⟨(([(x26) % 256] : List Int)), y262, (y262.length : Int), 0⟩ : S44)])) else (none))) else (none)) else (none)) else (none)) else (none)) else (terrierlaw04_PageUsed.l1 k x0 x1 0 x261003 (x261003.length : Int) 0 x261000 x261001 x261002 x261003)
def terrierlaw04_PageUsed.l1 : Nat → List Int → Int → Int → List (S44) → Int → Int → Int → Int → Int → List (S44) → Option (Bool)
 | 0, _, _, _, _, _, _, _, _, _, _ => none
 | k + 1, x0, x1, x9, x49, x50, x51, x261000, x261001, x261002, x261003 => if x51 < x50 then (if 0 ≤ x51 then (if x51 < (x49.length : Int) then (terrierlaw04_PageUsed.l1 k x0 x1 (wrap64 (x9 + (wrap64 (4 + (((rd_T44 x49 x51).f1).length : Int))))) x49 x50 (wrap64 (x51 + 1)) x261000 x261001 x261002 x261003) else (none)) else (none)) else ((page_Used.f k x261000 x261001 x261002 x261003 ([] : List (S60)) ([] : List Int) ([] : List Int)).bind fun t273 => (if t273 = x9 then (if (x0.length : Int) > 0 then ((page_Right.f k x261000 x261001 x261002 x261003 ([] : List (S60)) ([] : List Int) ([] : List Int)).bind fun t274 => (terrierlaw04_PageUsed.j3 k x1 (t274 != (decide (x9 ≤ 237))))) else (terrierlaw04_PageUsed.j3 k x1 false)) else (terrierlaw04_PageUsed.j3 k x1 true)))
def terrierlaw04_PageUsed.j3 : Nat → Int → Bool → Option (Bool)
 | 0, _, _ => none
 | k + 1, x1, x77 => if x77 = true then (some false) else (if 0 ≤ (wrap64 (Int.tmod (IntKind.u64.wrap (x1)) 500)) then (if (wrap64 (Int.tmod (IntKind.u64.wrap (x1)) 500) : Int).toNat ≤ 281474976710656 then ((some (List.replicate (wrap64 (Int.tmod (IntKind.u64.wrap (x1)) 500) : Int).toNat 0 : List Int)).bind fun y275 => ((sum_Open.f k ([] : List Int)).bind fun bt279 => (if bt279.2 = 3 then ((page_Right.f k 3 0 0 ([] : List (S44)) ([] : List (S60)) y275 ([] : List Int)).bind fun t283 => (if (y275.length : Int) ≥ 1 then (some (t283 == (decide ((y275.length : Int) ≤ 237)))) else (some (t283 == false)))) else (some false)))) else (none)) else (none))
end
def terrierlaw04_PageUsed.f (k : Nat) (l0 : List Int) (a1 : Int) : Option (Bool) := (terrierlaw04_lives.f k).bind fun t258 => (if t258 = true then (terrierlaw04_PageUsed.j0 k l0 a1 (decide ((l0.length : Int) > 100))) else (terrierlaw04_PageUsed.j0 k l0 a1 true))
theorem terrierlaw04_PageUsed.mono_l : ∀ k, (∀ y0 y1 y2, LeO (terrierlaw04_PageUsed.j0 k y0 y1 y2) (terrierlaw04_PageUsed.j0 (k + 1) y0 y1 y2)) ∧ (∀ y0 y1 y2 y3 y4 y5 y6 y7 y8, LeO (terrierlaw04_PageUsed.l0 k y0 y1 y2 y3 y4 y5 y6 y7 y8) (terrierlaw04_PageUsed.l0 (k + 1) y0 y1 y2 y3 y4 y5 y6 y7 y8)) ∧ (∀ y0 y1 y2 y3 y4 y5 y6 y7 y8 y9, LeO (terrierlaw04_PageUsed.l1 k y0 y1 y2 y3 y4 y5 y6 y7 y8 y9) (terrierlaw04_PageUsed.l1 (k + 1) y0 y1 y2 y3 y4 y5 y6 y7 y8 y9)) ∧ (∀ y0 y1, LeO (terrierlaw04_PageUsed.j3 k y0 y1) (terrierlaw04_PageUsed.j3 (k + 1) y0 y1))
 | 0 => ⟨fun _ _ _ r h => by simp [terrierlaw04_PageUsed.j0] at h, fun _ _ _ _ _ _ _ _ _ r h => by simp [terrierlaw04_PageUsed.l0] at h, fun _ _ _ _ _ _ _ _ _ _ r h => by simp [terrierlaw04_PageUsed.l1] at h, fun _ _ r h => by simp [terrierlaw04_PageUsed.j3] at h⟩
 | k + 1 => by
  obtain ⟨ih0, ih1, ih2, ih3⟩ := terrierlaw04_PageUsed.mono_l k; refine ⟨?_, ?_, ?_, ?_⟩
  ·
   intro y0 y1 y2
   unfold terrierlaw04_PageUsed.j0
   repeat' first
   | (with_reducible exact ih0 _ _ _)
   | (with_reducible exact ih1 _ _ _ _ _ _ _ _ _)
   | (with_reducible exact ih2 _ _ _ _ _ _ _ _ _ _)
   | (with_reducible exact ih3 _ _)
   | (with_reducible exact page_Right.mono _ _ _ _ _ _ _ _)
   | (with_reducible exact page_Used.mono _ _ _ _ _ _ _ _)
   | (with_reducible exact sum_Open.mono _ _)
   | (with_reducible exact terrierlaw04_lives.mono _)
   | (with_reducible exact LeO.refl _)
   | (with_reducible exact LeO.none _)
   | (with_reducible refine LeO.ite ?_ ?_)
   | (with_reducible refine LeO.bind ?_ (fun _ => ?_))
   | exact ih0 _ _ _
   | exact ih1 _ _ _ _ _ _ _ _ _
   | exact ih2 _ _ _ _ _ _ _ _ _ _
   | exact ih3 _ _
   | exact page_Right.mono _ _ _ _ _ _ _ _
   | exact page_Used.mono _ _ _ _ _ _ _ _
   | exact sum_Open.mono _ _
   | exact terrierlaw04_lives.mono _
   | exact LeO.none _
   | refine LeO.ite ?_ ?_
   | refine LeO.bind ?_ (fun _ => ?_)
  ·
   intro y0 y1 y2 y3 y4 y5 y6 y7 y8
   unfold terrierlaw04_PageUsed.l0
   repeat' first
   | (with_reducible exact ih0 _ _ _)
   | (with_reducible exact ih1 _ _ _ _ _ _ _ _ _)
   | (with_reducible exact ih2 _ _ _ _ _ _ _ _ _ _)
   | (with_reducible exact ih3 _ _)
   | (with_reducible exact page_Right.mono _ _ _ _ _ _ _ _)
   | (with_reducible exact page_Used.mono _ _ _ _ _ _ _ _)
   | (with_reducible exact sum_Open.mono _ _)
   | (with_reducible exact terrierlaw04_lives.mono _)
   | (with_reducible exact LeO.refl _)
   | (with_reducible exact LeO.none _)
   | (with_reducible refine LeO.ite ?_ ?_)
   | (with_reducible refine LeO.bind ?_ (fun _ => ?_))
   | exact ih0 _ _ _
   | exact ih1 _ _ _ _ _ _ _ _ _
   | exact ih2 _ _ _ _ _ _ _ _ _ _
   | exact ih3 _ _
   | exact page_Right.mono _ _ _ _ _ _ _ _
   | exact page_Used.mono _ _ _ _ _ _ _ _
   | exact sum_Open.mono _ _
   | exact terrierlaw04_lives.mono _
   | exact LeO.none _
   | refine LeO.ite ?_ ?_
   | refine LeO.bind ?_ (fun _ => ?_)
  ·
   intro y0 y1 y2 y3 y4 y5 y6 y7 y8 y9
   unfold terrierlaw04_PageUsed.l1
   repeat' first
   | (with_reducible exact ih0 _ _ _)
   | (with_reducible exact ih1 _ _ _ _ _ _ _ _ _)
   | (with_reducible exact ih2 _ _ _ _ _ _ _ _ _ _)
   | (with_reducible exact ih3 _ _)
   | (with_reducible exact page_Right.mono _ _ _ _ _ _ _ _)
   | (with_reducible exact page_Used.mono _ _ _ _ _ _ _ _)
   | (with_reducible exact sum_Open.mono _ _)
   | (with_reducible exact terrierlaw04_lives.mono _)
   | (with_reducible exact LeO.refl _)
   | (with_reducible exact LeO.none _)
   | (with_reducible refine LeO.ite ?_ ?_)
   | (with_reducible refine LeO.bind ?_ (fun _ => ?_))
   | exact ih0 _ _ _
   | exact ih1 _ _ _ _ _ _ _ _ _
   | exact ih2 _ _ _ _ _ _ _ _ _ _
   | exact ih3 _ _
   | exact page_Right.mono _ _ _ _ _ _ _ _
   | exact page_Used.mono _ _ _ _ _ _ _ _
   | exact sum_Open.mono _ _
   | exact terrierlaw04_lives.mono _
   | exact LeO.none _
   | refine LeO.ite ?_ ?_
   | refine LeO.bind ?_ (fun _ => ?_)
  ·
   intro y0 y1
   unfold terrierlaw04_PageUsed.j3
   repeat' first
   | (with_reducible exact ih0 _ _ _)
   | (with_reducible exact ih1 _ _ _ _ _ _ _ _ _)
   | (with_reducible exact ih2 _ _ _ _ _ _ _ _ _ _)
   | (with_reducible exact ih3 _ _)
   | (with_reducible exact page_Right.mono _ _ _ _ _ _ _ _)
   | (with_reducible exact page_Used.mono _ _ _ _ _ _ _ _)
   | (with_reducible exact sum_Open.mono _ _)
   | (with_reducible exact terrierlaw04_lives.mono _)
   | (with_reducible exact LeO.refl _)
   | (with_reducible exact LeO.none _)
   | (with_reducible refine LeO.ite ?_ ?_)
   | (with_reducible refine LeO.bind ?_ (fun _ => ?_))
   | exact ih0 _ _ _
   | exact ih1 _ _ _ _ _ _ _ _ _
   | exact ih2 _ _ _ _ _ _ _ _ _ _
   | exact ih3 _ _
   | exact page_Right.mono _ _ _ _ _ _ _ _
   | exact page_Used.mono _ _ _ _ _ _ _ _
   | exact sum_Open.mono _ _
   | exact terrierlaw04_lives.mono _
   | exact LeO.none _
   | refine LeO.ite ?_ ?_
   | refine LeO.bind ?_ (fun _ => ?_)
theorem terrierlaw04_PageUsed.mono : ∀ a0 a1 k, LeO (terrierlaw04_PageUsed.f k a0 a1) (terrierlaw04_PageUsed.f (k + 1) a0 a1) := by
 intro a0 a1 k
 obtain ⟨ih0, ih1, ih2, ih3⟩ := terrierlaw04_PageUsed.mono_l k; unfold terrierlaw04_PageUsed.f
 repeat' first
   | (with_reducible exact ih0 _ _ _)
   | (with_reducible exact ih1 _ _ _ _ _ _ _ _ _)
   | (with_reducible exact ih2 _ _ _ _ _ _ _ _ _ _)
   | (with_reducible exact ih3 _ _)
   | (with_reducible exact page_Right.mono _ _ _ _ _ _ _ _)
   | (with_reducible exact page_Used.mono _ _ _ _ _ _ _ _)
   | (with_reducible exact sum_Open.mono _ _)
   | (with_reducible exact terrierlaw04_lives.mono _)
   | (with_reducible exact LeO.refl _)
   | (with_reducible exact LeO.none _)
   | (with_reducible refine LeO.ite ?_ ?_)
   | (with_reducible refine LeO.bind ?_ (fun _ => ?_))
   | exact ih0 _ _ _
   | exact ih1 _ _ _ _ _ _ _ _ _
   | exact ih2 _ _ _ _ _ _ _ _ _ _
   | exact ih3 _ _
   | exact page_Right.mono _ _ _ _ _ _ _ _
   | exact page_Used.mono _ _ _ _ _ _ _ _
   | exact sum_Open.mono _ _
   | exact terrierlaw04_lives.mono _
   | exact LeO.none _
   | refine LeO.ite ?_ ?_
   | refine LeO.bind ?_ (fun _ => ?_)
def terrierlaw04_PageUsed.T20 : Bool × List (List Nat × List Nat) := (true, [([], []), ([0], [0]), ([1], [1]), ([2], [2]), ([3, 2, 2], [2, 3]), ([2], [2]), ([5, 2], [2, 5]), ([6, 2], [2, 6]), ([7, 2], [2, 7]), ([8, 4, 2], [2, 8]), ([9], [9]), ([10, 9], [9, 10]), ([11, 9], [9, 11]), ([12, 9], [9, 12]), ([9, 13, 2], [2, 9, 13]), ([4, 14, 2], [2, 4, 14]), ([2, 15], [2, 15]), ([16, 9, 0, 1, 2, 3, 4, 5, 6, 7, 8, 9, 10, 11, 12, 13, 14, 15, 16], [16])])
def terrierlaw04_PageUsed.B20 : List Nat := [0, 1, 3, 7, 15, 7, 39, 103, 231, 511, 1023, 2047, 4095, 8191, 16383, 32767, 65535, 131071]
theorem terrierlaw04_PageUsed.tab20 : rtab .any (opsOf Try.f4 20) = terrierlaw04_PageUsed.T20 := by kernel_rfl
theorem terrierlaw04_PageUsed.bits20 : waitsOk terrierlaw04_PageUsed.T20.2 terrierlaw04_PageUsed.B20 = true := by kernel_rfl
set_option maxHeartbeats 8000000 in
set_option maxRecDepth 100000 in
theorem terrierlaw04_PageUsed.calls (k : Nat) (A0 : Option Addr) (c0 : Nat) (l0 : List Int) (a1 : Int) (r : Bool) (w : World) (hr0 : Kd.C (Kd.int .u8) w A0 l0.length l0) (hc0 : l0.length ≤ c0) (h : terrierlaw04_PageUsed.f k l0 a1 = some r) :
  Calls Try.prog 4 #[.slice A0 l0.length c0, .int .i64 a1] w fun e w' => e = .returned (.bool r) ∧ Below w.heap.size w w' := by
 have hu28 := Try.underlying28; have hu44 := Try.underlying44; have HR0 := Aside0.mk hr0; have HC0 := Aside0.mk hc0; clear hr0 hc0; have HB := Ext.a (Below.refl w.heap.size w); have H := h; unfold terrierlaw04_PageUsed.f at H; clear h; have HC3 := Aside0.mk H; clear H
 go_enter Try.func4, Try.ntmps4
 go_upto_region 1 with (fail)
 go_cut [21] (fun v21 wc => ∃ (kq : Nat) (x21_2 : Bool), v21 = .bool x21_2 ∧ Aside0 (terrierlaw04_PageUsed.j0 kq l0 a1 x21_2 = some r) ∧ Aside0 (kq ≤ k) ∧ Aside0 (Below w.heap.size w wc))
 case first =>
  have H := HC3.out; clear HC3; replace H := Option.bind_eq_some_iff.mp H; obtain ⟨t258, A40, H⟩ := H; (try dsimp only at H); have A4 := Aside0.mk A40; clear A40
  by_cases c5 : t258 = true
  ·
   subst c5; rw [if_pos rfl] at H; have H' := Aside0.mk H; clear H
   go_wp2_with (first | ((with_reducible refine gate_callee (f := 9) rfl ?_); refine Ext.gs (some 15) rfl rfl Try.func9 #[] rfl ?_; (with_reducible refine (terrierlaw04_lives.calls k  true _ A4.out).mono ?_); rintro e w6 ⟨rfl, hb⟩; refine ⟨_, rfl, ?_⟩; replace HB := Ext.a (below_step (Ext.nB HB.out) hb); (try clear hb)))
   go_meet
   case rel => exact ⟨_, (decide ((l0.length : Int) > 100)), (by first | rfl | (simp; done) | (simp [*]; done)), H', ⟨by first | omega | exact Nat.le_refl _⟩, ⟨by exact Ext.nB HB.out⟩⟩
  ·
   replace c5 := Bool.eq_false_iff.mpr c5; subst c5; rw [if_neg Bool.false_ne_true] at H; have H' := Aside0.mk H; clear H
   go_wp2_with (first | ((with_reducible refine gate_callee (f := 9) rfl ?_); refine Ext.gs (some 15) rfl rfl Try.func9 #[] rfl ?_; (with_reducible refine (terrierlaw04_lives.calls k  false _ A4.out).mono ?_); rintro e w7 ⟨rfl, hb⟩; refine ⟨_, rfl, ?_⟩; replace HB := Ext.a (below_step (Ext.nB HB.out) hb); (try clear hb)))
   go_meet
   case rel => exact ⟨_, (true), (by first | rfl | (simp; done) | (simp [*]; done)), H', ⟨by first | omega | exact Nat.le_refl _⟩, ⟨by exact Ext.nB HB.out⟩⟩
 case rest =>
  clear HC3; (try clear p2 c4); obtain ⟨kq, x21_2, rfl, HA, HJ2, HB⟩ := hcut; cases kq with
  | zero => exact absurd HA.out (by simp [terrierlaw04_PageUsed.j0])
  | succ kj2 =>
   have H := HA.out; clear HA; simp only [terrierlaw04_PageUsed.j0] at H
   by_cases c8 : x21_2 = true
   ·
    subst c8; rw [if_pos rfl] at H; replace H := Option.bind_eq_some_iff.mp H; obtain ⟨t259, A90, H⟩ := H; (try dsimp only at H); have A9 := Aside0.mk A90; clear A90; obtain rfl := Option.some.inj H
    go_wp2_with (first | ((with_reducible refine gate_callee (f := 9) rfl ?_); refine Ext.gs (some 22) rfl rfl Try.func9 #[] rfl ?_; (with_reducible refine (terrierlaw04_lives.calls kj2  t259 _ A9.out).mono ?_); rintro e w10 ⟨rfl, hb⟩; refine ⟨_, rfl, ?_⟩; replace HB := Ext.a (below_step (Ext.nB HB.out) hb); (try clear hb)))
    go_ret
    exact ⟨by first | rfl | (simp [errW_none, errW_some] <;> rfl) | (simp [*, errW_none, errW_some] <;> rfl), by exact Ext.nB HB.out⟩
   ·
    replace c8 := Bool.eq_false_iff.mpr c8; subst c8; rw [if_neg Bool.false_ne_true] at H; have H' := Aside0.mk H; clear H
    go_wp2_with (first | ((with_reducible refine gate_dst (N := 5) rfl ?_); (try (refine gate_guard (by rfl) ?_; dsimp only)); refine Ext.alloc_event (hgd := ?hg) (N := 5) (_hd := ?hd) (t := 28) (ho := ?ho) info28 ?_; (case ho => rfl); (case hd => rfl); (case hg => rfl); intro gb260 hg w11 hbox hb; have BK260 := Ext.a (hbox); have GW260 := Ext.gw hg (below_size (Ext.nB HB.out)); have GE260 := Ext.gw hg (below_size (Ext.nB HB.out)); replace HB := Ext.a (below_step (Ext.nB HB.out) hb); clear hb hbox hg; have hcz12 := Ext.cells7 BK260.out; have hfz12 := Ext.froz7 BK260.out) | ((with_reducible refine gate_store (t := 28) (p := 5) rfl ?_); refine Ext.struct_store (hgd := ?hg) (hN := ?hn) (t := 28) (p := .tmp 5) (x := ?vo_w13) (ho := ?ho) (cells := #[.int .i64 1, .int .u64 0, .int .i64 0, .slice none 0 0, .slice none 0 0, .slice none 0 0, .slice none 0 0]) (haddr := ?ha) (hx := ?hx) BK260.out rfl (by kernel_rfl) rfl ?_; (case ho => rfl); (case hg => rfl); (case hn => rfl); (case ha => rfl); (case hx => first | rfl | (go_simp; done)); intro w13 hx_ hk_ hbl_; replace BK260 := Ext.a (hx_); replace HB := Ext.a (hbl_ _ _ HB.out GE260.out); clear hx_ hk_ hbl_))
    go_loopg [26] kj2 (fun kq v26 w' => ∃ (x26_2 : Int) (x261003_2 : List (S44)) (u261003 : Value), v26 = .int .i64 x26_2 ∧ Aside0 (terrierlaw04_PageUsed.l0 kq l0 a1 l0 (l0.length : Int) x26_2 1 0 0 x261003_2 = some r) ∧ Aside0 (kq ≤ kj2) ∧ Aside0 (Kd.S k44 44 w' w.heap.size (fun _ => True) u261003 x261003_2) ∧ Aside0 (w'.heap[gb260]? = some (.cells #[.int .i64 1, .int .u64 0, .int .i64 0, u261003, (.slice none 0 0), (.slice none 0 0), (.slice none 0 0)] 28 (0, 0))) ∧ Aside0 (Below w.heap.size w w'))
    case atStart => exact ⟨(0), (([] : List (S44))), (.slice none 0 0), (by first | rfl | (simp; done) | (simp [*]; done)), H', ⟨Nat.le_refl _⟩, ⟨by first | exact Ext.nl | exact Kd.S_nil _ _ _ _ _⟩, ⟨by exact BK260.out⟩, ⟨by exact Ext.s1 GE260.out HB.out⟩⟩
    case round =>
     clear H'; (try clear c9 hcz12 hfz12); obtain ⟨x26_2, x261003_2, u261003, rfl, HA, HK2, HO_261003, BK260, HB⟩ := hrel; cases gk with
     | zero => exact absurd HA.out (by simp [terrierlaw04_PageUsed.l0])
     | succ k2 =>
      have H := HA.out; clear HA; simp only [terrierlaw04_PageUsed.l0] at H
      by_cases c14 : x26_2 < (l0.length : Int)
      ·
       rw [if_pos c14] at H; have c14b0 := decide_eq_true c14; clear c14
       by_cases c15 : 0 ≤ x26_2
       ·
        rw [if_pos c15] at H; have c15b0 := decide_eq_true c15; clear c15
        by_cases c16 : x26_2 < (l0.length : Int)
        ·
         rw [if_pos c16] at H; have c16b0 := decide_eq_true c16; clear c16; obtain ⟨ji17, hji17⟩ : ∃ j_ : Int, (Int.tmod (wrap64 (rd l0 x26_2)) 60) = j_ := ⟨_, rfl⟩
         replace H : (if 0 ≤ (ji17) then (if (ji17 : Int).toNat ≤ 281474976710656 then ((some (List.replicate (ji17 : Int).toNat 0 : List Int)).bind fun y262 => (if x261003_2.length < 2199023255552 then (terrierlaw04_PageUsed.l0 k2 l0 a1 l0 (l0.length : Int) (wrap64 (x26_2 + 1)) 1 0 0 (x261003_2 ++ [(⟨(([(x26_2) % 256] : List Int)), y262, (y262.length : Int), 0⟩ : S44)])) else (none))) else (none)) else (none)) = some r := by first | (rw [hji17] at H; exact H) | (simp only [hji17] at H ⊢; exact H)
         by_cases c18 : 0 ≤ (ji17)
         ·
          rw [if_pos c18] at H; have c18b0 := eq_true c18; have c18b1 := decide_eq_true c18; clear c18
          by_cases c19 : (ji17 : Int).toNat ≤ 281474976710656
          ·
           rw [if_pos c19] at H; have c19b0 := eq_true c19; have c19b1 := decide_eq_true c19; clear c19; obtain ⟨y262, hy262⟩ : ∃ y_ : List Int, y_ = (List.replicate (ji17 : Int).toNat 0) := ⟨_, rfl⟩
           replace H : (if x261003_2.length < 2199023255552 then (terrierlaw04_PageUsed.l0 k2 l0 a1 l0 (l0.length : Int) (wrap64 (x26_2 + 1)) 1 0 0 (x261003_2 ++ [(⟨(([(x26_2) % 256] : List Int)), y262, (y262.length : Int), 0⟩ : S44)])) else (none)) = some r := by first | (rw [hy262]; with_reducible exact H) | (have H2_ := (Option.bind_some _ _).symm.trans H; rw [hy262]; with_reducible exact H2_) | (have H2_ := (Option.bind_some _ _).symm.trans H; with_reducible exact H2_) | with_reducible exact H | (rw [hy262]; exact H) | exact H
           have Ny262 := Aside0.mk hy262; clear hy262; obtain ⟨y265, hy265⟩ : ∃ y_ : List Int, y_ = (([(x26_2) % 256] : List Int)) := ⟨_, rfl⟩
           replace H : (if x261003_2.length < 2199023255552 then (terrierlaw04_PageUsed.l0 k2 l0 a1 l0 (l0.length : Int) (wrap64 (x26_2 + 1)) 1 0 0 (x261003_2 ++ [(⟨y265, y262, (y262.length : Int), 0⟩ : S44)])) else (none)) = some r := by first | (rw [hy265]; with_reducible exact H) | (have H2_ := (Option.bind_some _ _).symm.trans H; rw [hy265]; with_reducible exact H2_) | (have H2_ := (Option.bind_some _ _).symm.trans H; with_reducible exact H2_) | with_reducible exact H | (rw [hy265]; exact H) | exact H
           have Ny265 := Aside0.mk hy265; clear hy265
           by_cases c20 : x261003_2.length < 2199023255552
           ·
            rw [if_pos c20] at H; have LMc20 := Aside0.mk c20; clear c20; obtain ⟨y268, hy268⟩ : ∃ y_ : List (S44), y_ = (x261003_2 ++ [(⟨y265, y262, (y262.length : Int), 0⟩ : S44)]) := ⟨_, rfl⟩
            replace H : (terrierlaw04_PageUsed.l0 k2 l0 a1 l0 (l0.length : Int) (wrap64 (x26_2 + 1)) 1 0 0 y268) = some r := by first | (rw [hy268]; with_reducible exact H) | (have H2_ := (Option.bind_some _ _).symm.trans H; rw [hy268]; with_reducible exact H2_) | (have H2_ := (Option.bind_some _ _).symm.trans H; with_reducible exact H2_) | with_reducible exact H | (rw [hy268]; exact H) | exact H
            have Ny268 := Aside0.mk hy268; clear hy268; have H' := Aside0.mk H; clear H; have p261 : 0 ≤ (x26_2 : Int) := of_decide_eq_true (by first | (with_reducible assumption) | assumption); have q261 : x26_2 < (l0.length : Int) := of_decide_eq_true (by first | (with_reducible assumption) | assumption); obtain ⟨ad261, e261, hx261_0⟩ := Kd.at_int HR0.out x26_2 p261 q261; cases e261; replace hx261_0 := (HB.out.cell (World.block_lt_of_cell? w _ hx261_0)).trans hx261_0; replace p261 := eq_true p261; replace q261 := eq_true q261
            go_wp2_with (first | ((with_reducible refine gate_dst (N := 34) rfl ?_); (try (refine gate_guard (by rfl) ?_; dsimp only)); refine Kd.R_make (Kd.int .u8) _ 5 rfl (N := 34) rfl 25 _ _ rfl ji17 rfl rfl Try.underlying25 (.int .u8 0) 1 info5 rfl (by decide) (by omega) 0 (ok := fun _ => True) (okp := fun _ => True) rfl (fun _ hk => hk) trivial (of_decide_eq_true (by first | (with_reducible assumption) | assumption)) (Nat.le_trans (Nat.mul_le_mul_right _ (of_decide_eq_true (by first | (with_reducible assumption) | assumption) : ji17.toNat ≤ 281474976710656)) (by omega)) (Below.refl _ _) (Nat.le_refl _) ?_; intro v263 w21 ho22 hb hg_ hnew_; clear hg_ hnew_; (first | rw [← Ny262.out] at ho22 | (simp only [Int.reduceToNat] at ho22; rw [← Ny262.out] at ho22)); replace HO_261003 := Ext.a (Kd.S_elder' (Ext.nS HO_261003.out) (Kd.R_base ho22) hb); have HO264 := Ext.a (Kd.R_lower ho22 (below_size (Ext.s1 GE260.out HB.out))); replace BK260 := Ext.a (blk_below BK260.out hb); replace HB := Ext.a (below_step (Ext.s1 GE260.out HB.out) hb); clear hb ho22; have hcz23 := Ext.cells7 BK260.out; have hfz23 := Ext.froz7 BK260.out) | ((with_reducible refine gate_dst (N := 39) rfl ?_); (try (refine gate_guard (by rfl) ?_; dsimp only)); refine Kd.R_lit (Kd.int .u8) _ 5 ?hg (N := 39) ?hd (xs := ([(x26_2) % 256] : List Int)) (inner := [.int .u8 ((x26_2) % 256)]) (ok := fun _ => True) (okp := fun _ => True) ?hr ?hp (fun _ hk => hk) trivial (Below.refl _ _) (Nat.le_refl _) (by simp) ?_; (case hd => rfl); (case hg => rfl); (case hr => first | (go_simp; done) | (go_simp; rfl)); (case hp => exact (Reps.one (show Kd.M (Kd.int .u8) _ _ _ ((x26_2) % 256) [.int .u8 ((x26_2) % 256)] from rfl) (Reps.none _ _))); intro v266 w24 ho25 hb hg_ hnew_; clear hg_ hnew_; (first | rw [← Ny265.out] at ho25 | (simp only [Int.reduceToNat] at ho25; rw [← Ny265.out] at ho25)); replace HO_261003 := Ext.a (Kd.S_elder' (Ext.nS HO_261003.out) (Kd.R_base ho25) hb); have HO267 := Ext.a (Kd.R_lower (Kd.R_new' ho25 (Kd.R_lt (Ext.nR HO264.out))) (below_size (Ext.s1 GE260.out HB.out))); replace HO264 := Ext.a (Kd.R_elder' (Ext.nR HO264.out) (Kd.R_base ho25) hb); replace BK260 := Ext.a (blk_below BK260.out hb); replace HB := Ext.a (below_step (Ext.s1 GE260.out HB.out) hb); clear hb ho25; obtain ⟨Ao26, co26, eo26⟩ := Kd.R_slice HO264.out; subst eo26; obtain ⟨Ao27, co27, eo27⟩ := Kd.R_slice HO267.out; subst eo27) | ((with_reducible refine gate_builtin (b := .append) (xs := #[.tmp 36, .tmp 44]) rfl ?_); (try (refine gate_guard (by rfl) ?_; dsimp only)); at_builtin; refine Kd.S_append k44 (w0 := w) w.heap.size rfl (.tmp 36) (.tmp 44) 23 44 (.agg #[(.slice none 0 0), (.slice none 0 0), (.int .i64 0), (.int .i64 0)]) 64 rfl Try.underlying23 info44 rfl (by decide) (by omega) u261003 x261003_2 (⟨y265, y262, (y262.length : Int), 0⟩ : S44) [.slice Ao27 y265.length co27, .slice Ao26 y262.length co26, .int .i64 (y262.length : Int), .int .i64 0] (fun _ => True) (fun k_ => some k_ = (.slice Ao27 y265.length co27 : Value).ownBlock ∨ some k_ = (.slice Ao26 y262.length co26 : Value).ownBlock) rfl rfl ?aP (fun k_ hk_ => hk_.elim (fun h_ => ((Kd.R_mono (ok' := fun k_ => ((fun _ => True)) k_ ∧ some k_ ≠ (u261003 : Value).ownBlock) (Kd.R_apart' (HO267.out) (Kd.S_typed HO_261003.out) (by decide)) (fun k_ hk => ⟨trivial, hk.2⟩))).1 k_ h_.symm) (fun h_ => ((Kd.R_mono (ok' := fun k_ => ((fun _ => True)) k_ ∧ some k_ ≠ (u261003 : Value).ownBlock) (Kd.R_apart' (HO264.out) (Kd.S_typed HO_261003.out) (by decide)) (fun k_ hk => ⟨trivial, hk.2⟩))).1 k_ h_.symm)) ?aF ?aO ?aB ?aS ?aL ?_; (case aP => exact k44_mkM _ _ _ (⟨y265, y262, (y262.length : Int), 0⟩ : S44) (Kd.R_mono (Kd.R_tight rfl (Kd.R_mono (ok' := fun k_ => ((fun _ => True)) k_ ∧ some k_ ≠ (u261003 : Value).ownBlock) (Kd.R_apart' (HO267.out) (Kd.S_typed HO_261003.out) (by decide)) (fun k_ hk => ⟨trivial, hk.2⟩))) (fun _ h_ => Or.inl h_)) (Kd.R_mono (Kd.R_tight rfl (Kd.R_mono (ok' := fun k_ => ((fun _ => True)) k_ ∧ some k_ ≠ (u261003 : Value).ownBlock) (Kd.R_apart' (HO264.out) (Kd.S_typed HO_261003.out) (by decide)) (fun k_ hk => ⟨trivial, hk.2⟩))) (fun _ h_ => Or.inr (h_)))); (case aB => exact (Ext.s1 GE260.out HB.out)); (case aF => exact (fun _ _ => trivial)); (case aO => exact (Ext.nS (Kd.S_mono HO_261003.out (fun k_ hk => ⟨trivial, fun e_ => e_.elim (fun h_ => hk.2 h_) (fun h_ => hk.1.2 h_)⟩)))); (case aS => exact (below_size (Ext.s1 GE260.out HB.out))); (case aL => have := LMc20.out; omega); intro v269 w28 ho hb hg hat; rw [← Ny268.out] at ho; replace BK260 := Ext.a (blk_grown BK260.out hg (Kd.S_ne HO_261003.out BK260.out (by decide))); replace HB := Ext.a (hb); have HO270 := Ext.a (ho); clear HO_261003 HO264 HO267; clear ho hb hg hat; obtain ⟨Ao29, co29, eo29⟩ := Kd.S_slice HO270.out; subst eo29; have hcz30 := Ext.cells7 BK260.out; have hfz30 := Ext.froz7 BK260.out))
            go_roundg k2
            case measure => have := HJ2.out; have := HK2.out; omega
            case rel => exact ⟨(wrap64 (x26_2 + 1)), (y268), (.slice Ao29 y268.length co29), (by first | rfl | (simp; done) | (simp [*]; done)), H', ⟨by have := HJ2.out; have := HK2.out; omega⟩, ⟨by (with_reducible repeat (first | apply Kd.S_alloc | apply Kd.S_drewN | apply Kd.S_drew)); exact Kd.S_mono (Kd.S_far (p := ⟨gb260, 3, none⟩) (Kd.S_types HO270.out BK260.out (by decide)) (fun _ hk => hk.2) (.slice Ao29 y268.length co29)) (fun _ hk => trivial)⟩, ⟨by exact Ext.pb0 BK260.out⟩, ⟨by exact Ext.s1 GE260.out HB.out⟩⟩
           · rw [if_neg c20] at H; exact absurd H (by simp)
          · rw [if_neg c19] at H; exact absurd H (by simp)
         · rw [if_neg c18] at H; exact absurd H (by simp)
        · rw [if_neg c16] at H; exact absurd H (by simp)
       · rw [if_neg c15] at H; exact absurd H (by simp)
      ·
       rw [if_neg c14] at H; have c14b0 := decide_eq_false c14; clear c14; have H' := Aside0.mk H; clear H; have hcz31 := Ext.cells7 BK260.out; have hfz31 := Ext.froz7 BK260.out; obtain ⟨Ao32, co32, eo32⟩ := Kd.S_slice HO_261003.out; subst eo32
       go_wp2
       go_loopg [9, 51] k2 (fun kq v9 v51 w' => ∃ (x9_3 : Int) (x51_3 : Int), v9 = .int .i64 x9_3 ∧ v51 = .int .i64 x51_3 ∧ Aside0 (terrierlaw04_PageUsed.l1 kq l0 a1 x9_3 x261003_2 (x261003_2.length : Int) x51_3 1 0 0 x261003_2 = some r) ∧ Aside0 (kq ≤ k2) ∧ Aside0 (Kd.S k44 44 w' w.heap.size (fun _ => True) (.slice Ao32 x261003_2.length co32) x261003_2) ∧ Aside0 (Kd.S k44 44 w' w.heap.size (fun _ => True) (.slice Ao32 x261003_2.length co32) x261003_2) ∧ Aside0 (w'.heap[gb260]? = some (.cells #[.int .i64 1, .int .u64 0, .int .i64 0, (.slice Ao32 x261003_2.length co32), (.slice none 0 0), (.slice none 0 0), (.slice none 0 0)] 28 (0, 0))) ∧ Aside0 (Below w.heap.size w w'))
       case atStart => exact ⟨(0), (0), (by first | rfl | (simp; done) | (simp [*]; done)), (by first | rfl | (simp; done) | (simp [*]; done)), H', ⟨Nat.le_refl _⟩, ⟨by exact Ext.nS HO_261003.out⟩, ⟨by exact Ext.nS HO_261003.out⟩, ⟨by exact BK260.out⟩, ⟨by exact Ext.s1 GE260.out HB.out⟩⟩
       case round =>
        clear H'; (try clear c1 c2 q2 hx2 p6 c14b0 c15b0 c16b0 c18b0 c18b1 c19b0 c19b1 p26 q26 hx26 hcz23 hcz30 hcz31 hfz23 hfz30 hfz31 hx261_0 p261 q261); obtain ⟨x9_3, x51_3, rfl, rfl, HA, HK3, HO_49, HO_261003, BK260, HB⟩ := hrel; cases gk with
        | zero => exact absurd HA.out (by simp [terrierlaw04_PageUsed.l1])
        | succ k3 =>
         have H := HA.out; clear HA; simp only [terrierlaw04_PageUsed.l1] at H
         by_cases c33 : x51_3 < (x261003_2.length : Int)
         ·
          rw [if_pos c33] at H; have c33b0 := decide_eq_true c33; clear c33
          by_cases c34 : 0 ≤ x51_3
          ·
           rw [if_pos c34] at H; have c34b0 := decide_eq_true c34; clear c34
           by_cases c35 : x51_3 < (x261003_2.length : Int)
           ·
            rw [if_pos c35] at H; have c35b0 := decide_eq_true c35; clear c35; have H' := Aside0.mk H; clear H; have p271 : 0 ≤ (x51_3 : Int) := of_decide_eq_true (by first | (with_reducible assumption) | assumption); have q271 : x51_3 < (x261003_2.length : Int) := of_decide_eq_true (by first | (with_reducible assumption) | assumption); obtain ⟨ad271, A271_0, c271_0, A271_1, c271_1, e271, hx271_0, hx271_1, hx271_2, hx271_3, hl271_0, hi271_0, hl271_1, hi271_1⟩ := at_T44 (Kd.S_reads' HO_49.out).2.2 x51_3 p271 q271; cases e271; obtain ⟨ce271, hce271, hMe271, hcc271⟩ := Kd.S_get HO_49.out z44 x51_3 p271 (by first | exact q271 | exact of_decide_eq_true (by first | (with_reducible assumption) | assumption) | (have e_ := (Kd.S_reads' HO_49.out).1; omega)); obtain ⟨ve271_0, ve271_1, rfl, ge271_0, ge271_1⟩ := k44_openM hMe271; have hv271_0 := hcc271 0 _ rfl; rw [Nat.add_zero] at hv271_0; replace hv271_0 := Option.some.inj (hv271_0.symm.trans hx271_0); rw [hv271_0] at ge271_0; have HL271_0 := Ext.a (show Kd.R (Kd.int .u8) 5 _ _ _ _ ((rd_T44 x261003_2 x51_3).f0) from ge271_0); clear hv271_0 ge271_0; have hv271_1 := hcc271 1 _ rfl; rw [add_field _ _ 1 (by omega)] at hv271_1; replace hv271_1 := Option.some.inj (hv271_1.symm.trans hx271_1); rw [hv271_1] at ge271_1; have HL271_1 := Ext.a (show Kd.R (Kd.int .u8) 5 _ _ _ _ ((rd_T44 x261003_2 x51_3).f1) from ge271_1); clear hv271_1 ge271_1; clear hcc271 hce271; have HR271_0 := Aside0.mk hi271_0; have HC271_0 := Aside0.mk hl271_0; clear hi271_0 hl271_0
            have HR271_1 := Aside0.mk hi271_1; have HC271_1 := Aside0.mk hl271_1; clear hi271_1 hl271_1; replace p271 := eq_true p271; replace q271 := eq_true q271
            go_wp2_with (first | ((with_reducible refine gate_dst (N := 11) rfl ?_); (try (refine gate_guard (by rfl) ?_; dsimp only)); refine box_event ?hg (N := 11) ?hd (cs := #[.slice none 0 0, .slice none 0 0, .int .i64 0, .int .i64 0]) (t := 44) ?hr ?_; (case hd => rfl); (case hg => rfl); (case hr => first | (go_simp; done) | (go_simp; rfl)); intro gb272 hg w36 hbox hb; replace HO_49 := Ext.a (Kd.S_below (Kd.S_elderB (Ext.nS HO_49.out) gb272 (Nat.le_of_eq hg.symm)) hb); replace HO_261003 := Ext.a (Kd.S_below (Kd.S_elderB (Ext.nS HO_261003.out) gb272 (Nat.le_of_eq hg.symm)) hb); replace HL271_0 := Ext.a (Kd.R_below (Ext.nR HL271_0.out) hb); replace HL271_1 := Ext.a (Kd.R_below (Ext.nR HL271_1.out) hb); replace HR271_0 := Ext.a (Kd.C_below (by exact Ext.nC HR271_0.out) hb); replace HR271_1 := Ext.a (Kd.C_below (by exact Ext.nC HR271_1.out) hb); have BK272 := Ext.a (hbox); have GW272 := Ext.gw hg (below_size (Ext.s1 GE260.out HB.out)); have GE272 := Ext.gw hg (below_size (Ext.s1 GE260.out HB.out)); replace HB := Ext.a (below_step (Ext.s1 GE260.out HB.out) hb); have NB260_272 := Ext.nt hg (blk_lt BK260.out); have NB272_260 := Ext.ng hg (blk_lt BK260.out); replace BK260 := Ext.a (blk_below BK260.out hb); clear hb hbox hg; have hnb37 := NB272_260.out; have hnc37 := NB260_272.out; obtain ⟨hcz38_0, hcz38_1, hcz38_2, hcz38_3⟩ := Ext.cells4 BK272.out; obtain ⟨hfz38_0, hfz38_1, hfz38_2, hfz38_3⟩ := Ext.froz4 BK272.out))
            go_roundg k3
            case measure => have := HJ2.out; have := HK2.out; have := HK3.out; omega
            case rel => exact ⟨(wrap64 (x9_3 + (wrap64 (4 + (((rd_T44 x261003_2 x51_3).f1).length : Int))))), (wrap64 (x51_3 + 1)), (by first | rfl | (simp; done) | (simp [*]; done)), (by first | rfl | (simp; done) | (simp [*]; done)), H', ⟨by have := HJ2.out; have := HK2.out; have := HK3.out; omega⟩, ⟨by (with_reducible repeat (first | apply Kd.S_alloc | apply Kd.S_drewN | apply Kd.S_drew)); exact Kd.S_mono (Kd.S_far (p := ⟨gb272, 3, none⟩) (Kd.S_far (p := ⟨gb272, 2, none⟩) (Kd.S_far (p := ⟨gb272, 1, none⟩) (Kd.S_far (p := ⟨gb272, 0, none⟩) (Kd.S_mono HO_49.out (fun k_ hk => (⟨hk, hk.2⟩ : _ ∧ k_ ≠ gb272))) (fun _ hk => hk.2) (.slice A271_0 ((rd_T44 x261003_2 x51_3).f0).length c271_0)) (fun _ hk => hk.2) (.slice A271_1 ((rd_T44 x261003_2 x51_3).f1).length c271_1)) (fun _ hk => hk.2) (.int .i64 ((rd_T44 x261003_2 x51_3).f2))) (fun _ hk => hk.2) (.int .i64 ((rd_T44 x261003_2 x51_3).f3))) (fun _ hk => trivial)⟩, ⟨by (with_reducible repeat (first | apply Kd.S_alloc | apply Kd.S_drewN | apply Kd.S_drew)); exact Kd.S_mono (Kd.S_far (p := ⟨gb272, 3, none⟩) (Kd.S_far (p := ⟨gb272, 2, none⟩) (Kd.S_far (p := ⟨gb272, 1, none⟩) (Kd.S_far (p := ⟨gb272, 0, none⟩) (Kd.S_mono HO_261003.out (fun k_ hk => (⟨hk, hk.2⟩ : _ ∧ k_ ≠ gb272))) (fun _ hk => hk.2) (.slice A271_0 ((rd_T44 x261003_2 x51_3).f0).length c271_0)) (fun _ hk => hk.2) (.slice A271_1 ((rd_T44 x261003_2 x51_3).f1).length c271_1)) (fun _ hk => hk.2) (.int .i64 ((rd_T44 x261003_2 x51_3).f2))) (fun _ hk => hk.2) (.int .i64 ((rd_T44 x261003_2 x51_3).f3))) (fun _ hk => trivial)⟩, ⟨by exact Ext.pb1 NB260_272.out BK260.out⟩, ⟨by exact Ext.s2 GE260.out GE272.out HB.out⟩⟩
           · rw [if_neg c35] at H; exact absurd H (by simp)
          · rw [if_neg c34] at H; exact absurd H (by simp)
         ·
          rw [if_neg c33] at H; have c33b0 := decide_eq_false c33; clear c33; have HC39 := Aside0.mk H; clear H
          go_upto_region 16 with (fail)
          go_cut [77] (fun v77 wc => ∃ (kq : Nat) (x77_38 : Bool), v77 = .bool x77_38 ∧ Aside0 (terrierlaw04_PageUsed.j3 kq a1 x77_38 = some r) ∧ Aside0 (kq ≤ k3) ∧ Aside0 (Kd.S k44 44 wc w.heap.size (fun _ => True) (.slice Ao32 x261003_2.length co32) x261003_2) ∧ Aside0 (wc.heap[gb260]? = some (.cells #[.int .i64 1, .int .u64 0, .int .i64 0, (.slice Ao32 x261003_2.length co32), (.slice none 0 0), (.slice none 0 0), (.slice none 0 0)] 28 (0, 0))) ∧ Aside0 (Below w.heap.size w wc))
          case first =>
           have H := HC39.out; clear HC39; replace H := Option.bind_eq_some_iff.mp H; obtain ⟨t273, A400, H⟩ := H; (try dsimp only at H); have A40 := Aside0.mk A400; clear A400
           by_cases c41 : t273 = x9_3
           ·
            rw [if_pos c41] at H; obtain ⟨c41b0, c41b1⟩ := Ext.eT c41; clear c41
            (first | rw [c41b0] | (simp only [i64_w, i32_w]; rw [c41b0]) | skip)
            by_cases c42 : (l0.length : Int) > 0
            ·
             rw [if_pos c42] at H; have c42b0 := decide_eq_true c42; have c42b1 : decide (0 < l0.length) = true := decide_eq_true (by omega); clear c42; replace H := Option.bind_eq_some_iff.mp H; obtain ⟨t274, A430, H⟩ := H; (try dsimp only at H); have A43 := Aside0.mk A430; clear A430; have H' := Aside0.mk H; clear H; have hcz44 := Ext.cells7 BK260.out; have hfz44 := Ext.froz7 BK260.out
             go_wp2_with (first | ((with_reducible refine gate_dst (N := 62) rfl ?_); (try (refine gate_guard (by rfl) ?_; dsimp only)); refine Ext.struct_load_blk (hgd := ?hg) (t := 28) (x := ?vx_62) (ho := ?ho) (haddr := ?ha) Try.underlying28 rfl (by kernel_rfl) BK260.out ?_; (case ho => rfl); (case hg => rfl); (case ha => rfl)) | ((with_reducible refine gate_callee (f := 18) rfl ?_); refine Ext.gs (some 63) rfl rfl Try.func18 #[.agg #[.int .i64 1, .int .u64 0, .int .i64 0, .slice Ao32 x261003_2.length co32, .slice none 0 0, .slice none 0 0, .slice none 0 0]] rfl ?_; (refine (page_Used.calls k3 1 0 0 _ _ x261003_2 _ _ ([] : List (S60)) _ _ ([] : List Int) _ _ ([] : List Int) t273 _ ?side1 ?side2 ?side3 ?side4 ?side5 ?side6 ?side7 ?side8 A40.out).mono ?_); (case side1 => exact Ext.nC (Kd.S_reads' HO_261003.out).2.2); (case side2 => exact (Kd.S_reads' HO_261003.out).2.1); (case side3 => exact Kd.C_nil _ _); (case side4 => exact Nat.le_refl _); (case side5 => exact Kd.C_nil _ _); (case side6 => exact Nat.le_refl _); (case side7 => exact Kd.C_nil _ _); (case side8 => exact Nat.le_refl _); rintro e w45 ⟨rfl, hb⟩; refine ⟨_, rfl, ?_⟩; replace HO_49 := Ext.a (Kd.S_below (Ext.nS HO_49.out) hb); replace HO_261003 := Ext.a (Kd.S_below (Ext.nS HO_261003.out) hb); replace BK260 := Ext.a (blk_below BK260.out hb); replace HB := Ext.a (below_step (Ext.s1 GE260.out HB.out) hb); (try clear hb); have hcz46 := Ext.cells7 BK260.out; have hfz46 := Ext.froz7 BK260.out) | ((with_reducible refine gate_dst (N := 71) rfl ?_); (try (refine gate_guard (by rfl) ?_; dsimp only)); refine Ext.struct_load_blk (hgd := ?hg) (t := 28) (x := ?vx_71) (ho := ?ho) (haddr := ?ha) Try.underlying28 rfl (by kernel_rfl) BK260.out ?_; (case ho => rfl); (case hg => rfl); (case ha => rfl)) | (go_at_call 14; (refine (page_Right.calls k3 1 0 0 _ _ x261003_2 _ _ ([] : List (S60)) _ _ ([] : List Int) _ _ ([] : List Int) t274 _ ?side1 ?side2 ?side3 ?side4 ?side5 ?side6 ?side7 ?side8 A43.out).mono ?_); (case side1 => exact Ext.nC (Kd.S_reads' HO_261003.out).2.2); (case side2 => exact (Kd.S_reads' HO_261003.out).2.1); (case side3 => exact Kd.C_nil _ _); (case side4 => exact Nat.le_refl _); (case side5 => exact Kd.C_nil _ _); (case side6 => exact Nat.le_refl _); (case side7 => exact Kd.C_nil _ _); (case side8 => exact Nat.le_refl _); rintro e w47 ⟨rfl, hb⟩; replace HO_49 := Ext.a (Kd.S_below (Ext.nS HO_49.out) hb); replace HO_261003 := Ext.a (Kd.S_below (Ext.nS HO_261003.out) hb); replace BK260 := Ext.a (blk_below BK260.out hb); replace HB := Ext.a (below_step (Ext.s1 GE260.out HB.out) hb); (try clear hb)))
             go_meet
             case rel => exact ⟨_, ((t274 != (decide (x9_3 ≤ 237)))), (by first | rfl | (simp; done) | (simp [*]; done)), H', ⟨by have := HJ2.out; have := HK2.out; have := HK3.out; first | omega | exact Nat.le_refl _⟩, ⟨by exact Ext.nS HO_261003.out⟩, ⟨by exact BK260.out⟩, ⟨by exact Ext.s1 GE260.out HB.out⟩⟩
            ·
             rw [if_neg c42] at H; have c42b0 := decide_eq_false c42; have c42b1 : decide (0 < l0.length) = false := decide_eq_false (by omega); clear c42; have H' := Aside0.mk H; clear H; have hcz48 := Ext.cells7 BK260.out; have hfz48 := Ext.froz7 BK260.out
             go_wp2_with (first | ((with_reducible refine gate_dst (N := 62) rfl ?_); (try (refine gate_guard (by rfl) ?_; dsimp only)); refine Ext.struct_load_blk (hgd := ?hg) (t := 28) (x := ?vx_62) (ho := ?ho) (haddr := ?ha) Try.underlying28 rfl (by kernel_rfl) BK260.out ?_; (case ho => rfl); (case hg => rfl); (case ha => rfl)) | ((with_reducible refine gate_callee (f := 18) rfl ?_); refine Ext.gs (some 63) rfl rfl Try.func18 #[.agg #[.int .i64 1, .int .u64 0, .int .i64 0, .slice Ao32 x261003_2.length co32, .slice none 0 0, .slice none 0 0, .slice none 0 0]] rfl ?_; (refine (page_Used.calls k3 1 0 0 _ _ x261003_2 _ _ ([] : List (S60)) _ _ ([] : List Int) _ _ ([] : List Int) t273 _ ?side1 ?side2 ?side3 ?side4 ?side5 ?side6 ?side7 ?side8 A40.out).mono ?_); (case side1 => exact Ext.nC (Kd.S_reads' HO_261003.out).2.2); (case side2 => exact (Kd.S_reads' HO_261003.out).2.1); (case side3 => exact Kd.C_nil _ _); (case side4 => exact Nat.le_refl _); (case side5 => exact Kd.C_nil _ _); (case side6 => exact Nat.le_refl _); (case side7 => exact Kd.C_nil _ _); (case side8 => exact Nat.le_refl _); rintro e w49 ⟨rfl, hb⟩; refine ⟨_, rfl, ?_⟩; replace HO_49 := Ext.a (Kd.S_below (Ext.nS HO_49.out) hb); replace HO_261003 := Ext.a (Kd.S_below (Ext.nS HO_261003.out) hb); replace BK260 := Ext.a (blk_below BK260.out hb); replace HB := Ext.a (below_step (Ext.s1 GE260.out HB.out) hb); (try clear hb)))
             go_meet
             case rel => exact ⟨_, (false), (by first | rfl | (simp; done) | (simp [*]; done)), H', ⟨by have := HJ2.out; have := HK2.out; have := HK3.out; first | omega | exact Nat.le_refl _⟩, ⟨by exact Ext.nS HO_261003.out⟩, ⟨by exact BK260.out⟩, ⟨by exact Ext.s1 GE260.out HB.out⟩⟩
           ·
            rw [if_neg c41] at H; obtain ⟨c41b0, c41b1⟩ := Ext.eF c41
            (first | rw [c41b0] | (simp only [i64_w, i32_w]; rw [c41b0]) | skip)
            have H' := Aside0.mk H; clear H; have hcz50 := Ext.cells7 BK260.out; have hfz50 := Ext.froz7 BK260.out
            go_wp2_with (first | ((with_reducible refine gate_dst (N := 62) rfl ?_); (try (refine gate_guard (by rfl) ?_; dsimp only)); refine Ext.struct_load_blk (hgd := ?hg) (t := 28) (x := ?vx_62) (ho := ?ho) (haddr := ?ha) Try.underlying28 rfl (by kernel_rfl) BK260.out ?_; (case ho => rfl); (case hg => rfl); (case ha => rfl)) | ((with_reducible refine gate_callee (f := 18) rfl ?_); refine Ext.gs (some 63) rfl rfl Try.func18 #[.agg #[.int .i64 1, .int .u64 0, .int .i64 0, .slice Ao32 x261003_2.length co32, .slice none 0 0, .slice none 0 0, .slice none 0 0]] rfl ?_; (refine (page_Used.calls k3 1 0 0 _ _ x261003_2 _ _ ([] : List (S60)) _ _ ([] : List Int) _ _ ([] : List Int) t273 _ ?side1 ?side2 ?side3 ?side4 ?side5 ?side6 ?side7 ?side8 A40.out).mono ?_); (case side1 => exact Ext.nC (Kd.S_reads' HO_261003.out).2.2); (case side2 => exact (Kd.S_reads' HO_261003.out).2.1); (case side3 => exact Kd.C_nil _ _); (case side4 => exact Nat.le_refl _); (case side5 => exact Kd.C_nil _ _); (case side6 => exact Nat.le_refl _); (case side7 => exact Kd.C_nil _ _); (case side8 => exact Nat.le_refl _); rintro e w51 ⟨rfl, hb⟩; refine ⟨_, rfl, ?_⟩; replace HO_49 := Ext.a (Kd.S_below (Ext.nS HO_49.out) hb); replace HO_261003 := Ext.a (Kd.S_below (Ext.nS HO_261003.out) hb); replace BK260 := Ext.a (blk_below BK260.out hb); replace HB := Ext.a (below_step (Ext.s1 GE260.out HB.out) hb); (try clear hb)))
            go_meet
            case rel => exact ⟨_, (true), (by first | rfl | (simp; done) | (simp [*]; done)), H', ⟨by have := HJ2.out; have := HK2.out; have := HK3.out; first | omega | exact Nat.le_refl _⟩, ⟨by exact Ext.nS HO_261003.out⟩, ⟨by exact BK260.out⟩, ⟨by exact Ext.s1 GE260.out HB.out⟩⟩
          case rest =>
           clear HC39; (try clear c3 c27 p27 q27 hx27 c33b0 c34b0 c35b0 c37 c41b0 c41b1 c42b0 c42b1 hcz38_0 hcz38_1 hcz38_2 hcz38_3 hcz44 hcz46 hcz48 hcz50 hfz38_0 hfz38_1 hfz38_2 hfz38_3 hfz44 hfz46 hfz48 hfz50 hx271_0 hx271_1 hx271_2 hx271_3 p271 q271); obtain ⟨kq, x77_38, rfl, HA, HJ38, HO_261003, BK260, HB⟩ := hcut; cases kq with
           | zero => exact absurd HA.out (by simp [terrierlaw04_PageUsed.j3])
           | succ kj38 =>
            have H := HA.out; clear HA; simp only [terrierlaw04_PageUsed.j3] at H
            by_cases c52 : x77_38 = true
            ·
             subst c52; rw [if_pos rfl] at H; obtain rfl := Option.some.inj H
             go_wp2
             go_ret
             exact ⟨by first | rfl | (simp [errW_none, errW_some] <;> rfl) | (simp [*, errW_none, errW_some] <;> rfl), by exact Ext.s1 GE260.out HB.out⟩
            ·
             replace c52 := Bool.eq_false_iff.mpr c52; subst c52; rw [if_neg Bool.false_ne_true] at H; obtain ⟨ji53, hji53⟩ : ∃ j_ : Int, (wrap64 (Int.tmod (IntKind.u64.wrap (a1)) 500)) = j_ := ⟨_, rfl⟩
             replace H : (if 0 ≤ (ji53) then (if (ji53 : Int).toNat ≤ 281474976710656 then ((some (List.replicate (ji53 : Int).toNat 0 : List Int)).bind fun y275 => ((sum_Open.f kj38 ([] : List Int)).bind fun bt279 => (if bt279.2 = 3 then ((page_Right.f kj38 3 0 0 ([] : List (S44)) ([] : List (S60)) y275 ([] : List Int)).bind fun t283 => (if (y275.length : Int) ≥ 1 then (some (t283 == (decide ((y275.length : Int) ≤ 237)))) else (some (t283 == false)))) else (some false)))) else (none)) else (none)) = some r := by first | (rw [hji53] at H; exact H) | (simp only [hji53] at H ⊢; exact H)
             have hji53w : (IntKind.i64.wrap (Int.tmod (IntKind.u64.wrap (a1)) 500)) = ji53 := (i64_w _).trans hji53
             by_cases c54 : 0 ≤ (ji53)
             ·
              rw [if_pos c54] at H; have c54b0 := eq_true c54; have c54b1 := decide_eq_true c54; clear c54
              by_cases c55 : (ji53 : Int).toNat ≤ 281474976710656
              ·
               rw [if_pos c55] at H; have c55b0 := eq_true c55; have c55b1 := decide_eq_true c55; clear c55; obtain ⟨y275, hy275⟩ : ∃ y_ : List Int, y_ = (List.replicate (ji53 : Int).toNat 0) := ⟨_, rfl⟩
               replace H : ((sum_Open.f kj38 ([] : List Int)).bind fun bt279 => (if bt279.2 = 3 then ((page_Right.f kj38 3 0 0 ([] : List (S44)) ([] : List (S60)) y275 ([] : List Int)).bind fun t283 => (if (y275.length : Int) ≥ 1 then (some (t283 == (decide ((y275.length : Int) ≤ 237)))) else (some (t283 == false)))) else (some false))) = some r := by first | (rw [hy275]; with_reducible exact H) | (have H2_ := (Option.bind_some _ _).symm.trans H; rw [hy275]; with_reducible exact H2_) | (have H2_ := (Option.bind_some _ _).symm.trans H; with_reducible exact H2_) | with_reducible exact H | (rw [hy275]; exact H) | exact H
               have Ny275 := Aside0.mk hy275; clear hy275; replace H := Option.bind_eq_some_iff.mp H; obtain ⟨⟨t279, t282⟩, A560, H⟩ := H; (try dsimp only at H); have A56 := Aside0.mk A560; clear A560
               by_cases c57 : t282 = 3
               ·
                rw [if_pos c57] at H; obtain ⟨c57b0, c57b1⟩ := Ext.eT c57; clear c57; replace H := Option.bind_eq_some_iff.mp H; obtain ⟨t283, A580, H⟩ := H; (try dsimp only at H); have A58 := Aside0.mk A580; clear A580
                by_cases c59 : (y275.length : Int) ≥ 1
                ·
                 rw [if_pos c59] at H; have c59b0 := decide_eq_true c59; have c59b1 : decide (1 ≤ y275.length) = true := decide_eq_true (by omega); clear c59; obtain rfl := Option.some.inj H
                 try go_wp2_with (first | ((with_reducible refine gate_dst (N := 82) rfl ?_); (try (refine gate_guard (by rfl) ?_; dsimp only)); refine Kd.R_make (Kd.int .u8) _ 5 rfl (N := 82) rfl 25 _ _ rfl ji53 rfl rfl Try.underlying25 (.int .u8 0) 1 info5 rfl (by decide) (by omega) 0 (ok := fun _ => True) (okp := fun _ => True) rfl (fun _ hk => hk) trivial (of_decide_eq_true (by first | (with_reducible assumption) | assumption)) (Nat.le_trans (Nat.mul_le_mul_right _ (of_decide_eq_true (by first | (with_reducible assumption) | assumption) : ji53.toNat ≤ 281474976710656)) (by omega)) (Below.refl _ _) (Nat.le_refl _) ?_; intro v276 w60 ho61 hb hg_ hnew_; clear hg_ hnew_; (first | rw [← Ny275.out] at ho61 | (simp only [Int.reduceToNat] at ho61; rw [← Ny275.out] at ho61)); replace HO_261003 := Ext.a (Kd.S_elder' (Ext.nS HO_261003.out) (Kd.R_base ho61) hb); have HO277 := Ext.a (Kd.R_lower ho61 (below_size (Ext.s1 GE260.out HB.out))); replace BK260 := Ext.a (blk_below BK260.out hb); replace HB := Ext.a (below_step (Ext.s1 GE260.out HB.out) hb); clear hb ho61; obtain ⟨Ao62, co62, eo62⟩ := Kd.R_slice HO277.out; subst eo62) | ((with_reducible refine gate_dst (N := 12) rfl ?_); (try (refine gate_guard (by rfl) ?_; dsimp only)); refine Ext.alloc_event (hgd := ?hg) (N := 12) (_hd := ?hd) (t := 28) (ho := ?ho) info28 ?_; (case ho => rfl); (case hd => rfl); (case hg => rfl); intro gb278 hg w63 hbox hb; replace HO_261003 := Ext.a (Kd.S_below (Ext.nS HO_261003.out) hb); replace HO277 := Ext.a (Kd.R_below (Ext.nR HO277.out) hb); have BK278 := Ext.a (hbox); have GW278 := Ext.gw hg (below_size (Ext.s1 GE260.out HB.out)); have GE278 := Ext.gw hg (below_size (Ext.s1 GE260.out HB.out)); replace HB := Ext.a (below_step (Ext.s1 GE260.out HB.out) hb); have NB260_278 := Ext.nt hg (blk_lt BK260.out); have NB278_260 := Ext.ng hg (blk_lt BK260.out); replace BK260 := Ext.a (blk_below BK260.out hb); clear hb hbox hg; have hnb64 := NB278_260.out; have hnc64 := NB260_278.out; have hcz65 := Ext.cells7 BK278.out; have hfz65 := Ext.froz7 BK278.out) | ((with_reducible refine gate_store (t := 28) (p := 12) rfl ?_); refine Ext.struct_store (hgd := ?hg) (hN := ?hn) (t := 28) (p := .tmp 12) (x := ?vo_w66) (ho := ?ho) (cells := #[.int .i64 3, .int .u64 0, .int .i64 0, .slice none 0 0, .slice none 0 0, .slice Ao62 y275.length co62, .slice none 0 0]) (haddr := ?ha) (hx := ?hx) BK278.out rfl (by kernel_rfl) rfl ?_; (case ho => rfl); (case hg => rfl); (case hn => rfl); (case ha => rfl); (case hx => first | rfl | (go_simp; done)); intro w66 hx_ hk_ hbl_; replace HO_261003 := Ext.a (Kd.S_mono (Kd.S_keep (Kd.S_types HO_261003.out BK278.out (by decide)) hk_ (fun _ h => h.2)) (fun _ h => h.1)); replace HO277 := Ext.a (Kd.R_mono (Kd.R_keep (Kd.R_types HO277.out BK278.out (by decide)) hk_ (fun _ h => h.2)) (fun _ h => h.1)); replace BK260 := Ext.a (KeepBut.blk hk_ BK260.out NB260_278.out (by simp)); replace BK278 := Ext.a (hx_); replace HB := Ext.a (hbl_ _ _ HB.out GE278.out); clear hx_ hk_ hbl_) | ((with_reducible refine gate_callee (f := 19) rfl ?_); refine Ext.gs (some 85) rfl rfl Try.func19 #[.slice none 0 0] rfl ?_; (refine (sum_Open.calls kj38 (fun k_ => False) _ _ ([] : List Int) t279 t282 _ ?side1 A56.out).mono ?_); (case side1 => exact Kd.V_nil _ _ _ _ _); rintro e w67 ⟨v280, rfl, ho0, hb⟩; refine ⟨_, rfl, ?_⟩; replace HO_261003 := Ext.a (Kd.S_elder' (Ext.nS HO_261003.out) (Kd.R_base ho0) hb); have HO281 := Ext.a (Kd.R_lower (Kd.R_new' (Kd.R_mono (ok' := fun k_ => True) ho0 (fun _ hk_ => trivial)) (Kd.R_lt (Ext.nR HO277.out))) (below_size (Ext.s2 GE260.out GE278.out HB.out))); replace HO277 := Ext.a (Kd.R_elder' (Ext.nR HO277.out) (Kd.R_base ho0) hb); replace BK260 := Ext.a (blk_below BK260.out hb); replace BK278 := Ext.a (blk_below BK278.out hb); replace HB := Ext.a (below_step (Ext.s2 GE260.out GE278.out HB.out) hb); (try clear hb ho0)))
                 replace HO_261003 := Ext.a (Kd.S_drew HO_261003.out); replace HO277 := Ext.a (Kd.R_drew HO277.out); replace HO281 := Ext.a (Kd.R_drew HO281.out); replace BK260 := Ext.a (blk_drew BK260.out); replace BK278 := Ext.a (blk_drew BK278.out); replace HB := Ext.a (below_drew1 HB.out); refine start_ (n := 18) (S := fun w' => w'.cell? ⟨gb278, 0, none⟩ = some (.int .i64 3) ∧ w'.cell? ⟨gb278, 1, none⟩ = some (.int .u64 0) ∧ w'.cell? ⟨gb278, 2, none⟩ = some (.int .i64 0) ∧ w'.cell? ⟨gb278, 3, none⟩ = some (.slice none 0 0) ∧ w'.cell? ⟨gb278, 4, none⟩ = some (.slice none 0 0) ∧ w'.cell? ⟨gb278, 5, none⟩ = some (.slice Ao62 y275.length co62) ∧ w'.cell? ⟨gb278, 6, none⟩ = some (.slice none 0 0)) (ds := []) zb4_0 (by kernel_rfl) rfl rfl ⟨(blk_cell BK278.out 0).trans rfl, (blk_cell BK278.out 1).trans rfl, (blk_cell BK278.out 2).trans rfl, (blk_cell BK278.out 3).trans rfl, (blk_cell BK278.out 4).trans rfl, (blk_cell BK278.out 5).trans rfl, (blk_cell BK278.out 6).trans rfl⟩ (fun hHeld => ?_); refine with_tabW terrierlaw04_PageUsed.tab20 terrierlaw04_PageUsed.bits20 (fun HT_ HW_ => ?_); generalize w67.drew = w68 at HO_261003 HO277 HO281 BK260 BK278 HB hHeld ⊢; refine pure_ (i := 0) (N := some 88) (v := ?_) (a' := ?_) zb4_1 rfl rfl (any_of HT_.out (by kernel_rfl)) (fun _ _ _ h => h) (Or.inl ⟨by rfl, ?_⟩) ?_ ?_; rotate_left
                 · intro w'; go_simp; with_reducible rfl
                 rotate_left
                 · simp only [Act.put, Ext.sb, Ext.sz, Ext.ss, i64_w, i32_w]; rfl
                 refine pure_ (i := 1) (N := some 89) (v := ?_) (a' := ?_) zb4_2 rfl rfl (any_of HT_.out (by kernel_rfl)) (fun _ _ _ h => h) (Or.inl ⟨by rfl, ?_⟩) ?_ ?_; rotate_left
                 · intro w'; go_simp; with_reducible rfl
                 rotate_left
                 · simp only [Act.put, Ext.sb, Ext.sz, Ext.ss, i64_w, i32_w]; rfl
                 refine pure_ (i := 2) (N := some 90) (v := ?_) (a' := ?_) zb4_3 rfl rfl (any_of HT_.out (by kernel_rfl)) (fun _ _ _ h => h) (Or.inl ⟨by rfl, ?_⟩) ?_ ?_; rotate_left
                 · intro w'; go_simp; with_reducible rfl
                 rotate_left
                 · simp only [Act.put, Ext.sb, Ext.sz, Ext.ss, i64_w, i32_w]; rfl
                 refine pure_ (i := 5) (N := some 93) (v := ?_) (a' := ?_) zb4_14 rfl rfl (any_of HT_.out (by kernel_rfl)) (fun _ _ _ h => h) (Or.inl ⟨by rfl, ?_⟩) ?_ ?_; rotate_left
                 · intro w'; go_simp; with_reducible rfl
                 rotate_left
                 · simp only [Act.put, Ext.sb, Ext.sz, Ext.ss, i64_w, i32_w]; rfl
                 refine take_ (i := 3) (N := some 91) (v := ?_) (a' := ?_) zb4_15 rfl rfl (take_ofW HT_.out HW_.out (by kernel_rfl)) (fun _ _ _ h => h) (Or.inl ⟨by rfl, ?_⟩) hHeld ?_ ?_; rotate_left
                 · rintro w' ⟨s0, s1, s2, s3, s4, s5, s6⟩; go_simp; with_reducible rfl
                 rotate_left
                 · simp only [Act.put, Ext.sb, Ext.sz, Ext.ss, i64_w, i32_w]; rfl
                 refine take_ (i := 6) (N := some 94) (v := ?_) (a' := ?_) zb4_16 rfl rfl (take_ofW HT_.out HW_.out (by kernel_rfl)) (fun _ _ _ h => h) (Or.inl ⟨by rfl, ?_⟩) hHeld ?_ ?_; rotate_left
                 · rintro w' ⟨s0, s1, s2, s3, s4, s5, s6⟩; go_simp; with_reducible rfl
                 rotate_left
                 · simp only [Act.put, Ext.sb, Ext.sz, Ext.ss, i64_w, i32_w]; rfl
                 refine pure_ (i := 7) (N := some 95) (v := ?_) (a' := ?_) zb4_17 rfl rfl (any_of HT_.out (by kernel_rfl)) (fun _ _ _ h => h) (Or.inl ⟨by rfl, ?_⟩) ?_ ?_; rotate_left
                 · intro w'; go_simp; with_reducible rfl
                 rotate_left
                 · simp only [Act.put, Ext.sb, Ext.sz, Ext.ss, i64_w, i32_w]; rfl
                 refine pure_ (i := 8) (N := some 96) (v := ?_) (a' := ?_) zb4_18 rfl rfl (any_of HT_.out (by kernel_rfl)) (fun _ _ _ h => h) (Or.inl ⟨by rfl, ?_⟩) ?_ ?_; rotate_left
                 · intro w'; go_simp; with_reducible rfl
                 rotate_left
                 · simp only [Act.put, Ext.sb, Ext.sz, Ext.ss, i64_w, i32_w]; rfl
                 refine one_ (i := 4) (N := some 92) zb4_4 rfl rfl (one_of HT_.out (by kernel_rfl)) (by decide) (fun K hK => ?_); refine goes_ Try.func14 (by kernel_rfl) rfl #[.agg #[.int .i64 3, .int .u64 0, .int .i64 0, .slice none 0 0, .slice none 0 0, .slice Ao62 y275.length co62, .slice none 0 0]] (by rfl) rfl rfl (by (try simp only [List.map_toArray, List.map_cons, List.map_nil]); first | done | rfl | (simp only [List.length_drop, List.length_take]; rfl)) ?_; refine (page_Right.calls kj38 3 0 0 _ _ ([] : List (S44)) _ _ ([] : List (S60)) _ _ y275 _ _ ([] : List Int) t283 _ ?side1 ?side2 ?side3 ?side4 ?side5 ?side6 ?side7 ?side8 A58.out).mono ?_
                 (case side1 => exact Kd.C_nil _ _)
                 (case side2 => exact Nat.le_refl _)
                 (case side3 => exact Kd.C_nil _ _)
                 (case side4 => exact Nat.le_refl _)
                 (case side5 => exact Ext.nC (Kd.R_reads' HO277.out).2.2)
                 (case side6 => exact (Kd.R_reads' HO277.out).2.1)
                 (case side7 => exact Kd.C_nil _ _)
                 (case side8 => exact Nat.le_refl _)
                 rintro e w69 ⟨rfl, hb⟩; refine ⟨_, rfl, ?_⟩; replace HO_261003 := Ext.a (Kd.S_below (Ext.nS HO_261003.out) hb); replace HO277 := Ext.a (Kd.R_below (Ext.nR HO277.out) hb); replace HO281 := Ext.a (Kd.R_below (Ext.nR HO281.out) hb); replace BK260 := Ext.a (blk_below BK260.out hb); replace BK278 := Ext.a (blk_below BK278.out hb); replace HB := Ext.a (below_step (Ext.s2 GE260.out GE278.out HB.out) hb); (try clear hb); refine hK.out _ _ ⟨(blk_cell BK278.out 0).trans rfl, (blk_cell BK278.out 1).trans rfl, (blk_cell BK278.out 2).trans rfl, (blk_cell BK278.out 3).trans rfl, (blk_cell BK278.out 4).trans rfl, (blk_cell BK278.out 5).trans rfl, (blk_cell BK278.out 6).trans rfl⟩ (fun hHeld => ?_); clear hK K; refine norm_ (a' := ?_) ?_ ?_; rotate_left
                 · show Act.put _ (some 92) _ = _; simp only [Act.put, Ext.sb, Ext.sz, Ext.ss, i64_w, i32_w]; rfl
                 refine pure_ (i := 9) (N := some 97) (v := ?_) (a' := ?_) zb4_5 rfl rfl (any_of HT_.out (by kernel_rfl)) (fun _ _ _ h => h) (Or.inl ⟨by rfl, ?_⟩) ?_ ?_; rotate_left
                 · intro w'; go_simp; with_reducible rfl
                 rotate_left
                 · simp only [Act.put, Ext.sb, Ext.sz, Ext.ss, i64_w, i32_w]; rfl
                 refine pure_ (i := 10) (N := some 98) (v := ?_) (a' := ?_) zb4_6 rfl rfl (any_of HT_.out (by kernel_rfl)) (fun _ _ _ h => h) (Or.inl ⟨by rfl, ?_⟩) ?_ ?_; rotate_left
                 · intro w'; go_simp; with_reducible rfl
                 rotate_left
                 · simp only [Act.put, Ext.sb, Ext.sz, Ext.ss, i64_w, i32_w]; rfl
                 refine take_ (i := 11) (N := some 99) (v := ?_) (a' := ?_) zb4_7 rfl rfl (take_ofW HT_.out HW_.out (by kernel_rfl)) (fun _ _ _ h => h) (Or.inl ⟨by rfl, ?_⟩) hHeld ?_ ?_; rotate_left
                 · rintro w' ⟨s0, s1, s2, s3, s4, s5, s6⟩; go_simp; with_reducible rfl
                 rotate_left
                 · simp only [Act.put, Ext.sb, Ext.sz, Ext.ss, i64_w, i32_w]; rfl
                 refine pure_ (i := 12) (N := some 100) (v := ?_) (a' := ?_) zb4_8 rfl rfl (any_of HT_.out (by kernel_rfl)) (fun _ _ _ h => h) (Or.inl ⟨by rfl, ?_⟩) ?_ ?_; rotate_left
                 · intro w'; go_simp; with_reducible rfl
                 rotate_left
                 · simp only [Act.put, Ext.sb, Ext.sz, Ext.ss, i64_w, i32_w]; rfl
                 refine pure_ (i := 13) (N := some 101) (v := ?_) (a' := ?_) zb4_9 rfl rfl (any_of HT_.out (by kernel_rfl)) (fun _ _ _ h => h) (Or.inl ⟨by rfl, ?_⟩) ?_ ?_; rotate_left
                 · intro w'; go_simp; with_reducible rfl
                 rotate_left
                 · simp only [Act.put, Ext.sb, Ext.sz, Ext.ss, i64_w, i32_w]; rfl
                 refine pure_ (i := 14) (N := some 102) (v := ?_) (a' := ?_) zb4_10 rfl rfl (any_of HT_.out (by kernel_rfl)) (fun _ _ _ h => h) (Or.inl ⟨by rfl, ?_⟩) ?_ ?_; rotate_left
                 · intro w'; go_simp; with_reducible rfl
                 rotate_left
                 · simp only [Act.put, Ext.sb, Ext.sz, Ext.ss, i64_w, i32_w]; rfl
                 refine pure_ (i := 15) (N := some 103) (v := ?_) (a' := ?_) zb4_11 rfl rfl (any_of HT_.out (by kernel_rfl)) (fun _ _ _ h => h) (Or.inl ⟨by rfl, ?_⟩) ?_ ?_; rotate_left
                 · intro w'; go_simp; with_reducible rfl
                 rotate_left
                 · simp only [Act.put, Ext.sb, Ext.sz, Ext.ss, i64_w, i32_w]; rfl
                 refine pure_ (i := 16) (N := some 104) (v := ?_) (a' := ?_) zb4_12 rfl rfl (any_of HT_.out (by kernel_rfl)) (fun _ _ _ h => h) (Or.inl ⟨by rfl, ?_⟩) ?_ ?_; rotate_left
                 · intro w'; go_simp; with_reducible rfl
                 rotate_left
                 · simp only [Act.put, Ext.sb, Ext.sz, Ext.ss, i64_w, i32_w]; rfl
                 refine pure_ (i := 17) (N := some 4) (v := ?_) (a' := ?_) zb4_13 rfl rfl (any_of HT_.out (by kernel_rfl)) (fun _ _ _ h => h) (Or.inl ⟨by rfl, ?_⟩) ?_ ?_; rotate_left
                 · intro w'; go_simp; with_reducible rfl
                 rotate_left
                 · simp only [Act.put, Ext.sb, Ext.sz, Ext.ss, i64_w, i32_w]; rfl
                 refine done_ (done_of HT_.out (by kernel_rfl)) ?_
                 try go_wp2
                 go_ret
                 exact ⟨by first | rfl | (simp [errW_none, errW_some] <;> rfl) | (simp only [← hji53]; first | rfl | (simp [errW_none, errW_some] <;> rfl)) | (simp [*, errW_none, errW_some] <;> rfl), by exact Ext.s2 GE260.out GE278.out HB.out⟩
                ·
                 rw [if_neg c59] at H; have c59b0 := decide_eq_false c59; have c59b1 : decide (1 ≤ y275.length) = false := decide_eq_false (by omega); clear c59; obtain rfl := Option.some.inj H
                 try go_wp2_with (first | ((with_reducible refine gate_dst (N := 82) rfl ?_); (try (refine gate_guard (by rfl) ?_; dsimp only)); refine Kd.R_make (Kd.int .u8) _ 5 rfl (N := 82) rfl 25 _ _ rfl ji53 rfl rfl Try.underlying25 (.int .u8 0) 1 info5 rfl (by decide) (by omega) 0 (ok := fun _ => True) (okp := fun _ => True) rfl (fun _ hk => hk) trivial (of_decide_eq_true (by first | (with_reducible assumption) | assumption)) (Nat.le_trans (Nat.mul_le_mul_right _ (of_decide_eq_true (by first | (with_reducible assumption) | assumption) : ji53.toNat ≤ 281474976710656)) (by omega)) (Below.refl _ _) (Nat.le_refl _) ?_; intro v276 w70 ho71 hb hg_ hnew_; clear hg_ hnew_; (first | rw [← Ny275.out] at ho71 | (simp only [Int.reduceToNat] at ho71; rw [← Ny275.out] at ho71)); replace HO_261003 := Ext.a (Kd.S_elder' (Ext.nS HO_261003.out) (Kd.R_base ho71) hb); have HO277 := Ext.a (Kd.R_lower ho71 (below_size (Ext.s1 GE260.out HB.out))); replace BK260 := Ext.a (blk_below BK260.out hb); replace HB := Ext.a (below_step (Ext.s1 GE260.out HB.out) hb); clear hb ho71; obtain ⟨Ao72, co72, eo72⟩ := Kd.R_slice HO277.out; subst eo72) | ((with_reducible refine gate_dst (N := 12) rfl ?_); (try (refine gate_guard (by rfl) ?_; dsimp only)); refine Ext.alloc_event (hgd := ?hg) (N := 12) (_hd := ?hd) (t := 28) (ho := ?ho) info28 ?_; (case ho => rfl); (case hd => rfl); (case hg => rfl); intro gb278 hg w73 hbox hb; replace HO_261003 := Ext.a (Kd.S_below (Ext.nS HO_261003.out) hb); replace HO277 := Ext.a (Kd.R_below (Ext.nR HO277.out) hb); have BK278 := Ext.a (hbox); have GW278 := Ext.gw hg (below_size (Ext.s1 GE260.out HB.out)); have GE278 := Ext.gw hg (below_size (Ext.s1 GE260.out HB.out)); replace HB := Ext.a (below_step (Ext.s1 GE260.out HB.out) hb); have NB260_278 := Ext.nt hg (blk_lt BK260.out); have NB278_260 := Ext.ng hg (blk_lt BK260.out); replace BK260 := Ext.a (blk_below BK260.out hb); clear hb hbox hg; have hnb74 := NB278_260.out; have hnc74 := NB260_278.out; have hcz75 := Ext.cells7 BK278.out; have hfz75 := Ext.froz7 BK278.out) | ((with_reducible refine gate_store (t := 28) (p := 12) rfl ?_); refine Ext.struct_store (hgd := ?hg) (hN := ?hn) (t := 28) (p := .tmp 12) (x := ?vo_w76) (ho := ?ho) (cells := #[.int .i64 3, .int .u64 0, .int .i64 0, .slice none 0 0, .slice none 0 0, .slice Ao72 y275.length co72, .slice none 0 0]) (haddr := ?ha) (hx := ?hx) BK278.out rfl (by kernel_rfl) rfl ?_; (case ho => rfl); (case hg => rfl); (case hn => rfl); (case ha => rfl); (case hx => first | rfl | (go_simp; done)); intro w76 hx_ hk_ hbl_; replace HO_261003 := Ext.a (Kd.S_mono (Kd.S_keep (Kd.S_types HO_261003.out BK278.out (by decide)) hk_ (fun _ h => h.2)) (fun _ h => h.1)); replace HO277 := Ext.a (Kd.R_mono (Kd.R_keep (Kd.R_types HO277.out BK278.out (by decide)) hk_ (fun _ h => h.2)) (fun _ h => h.1)); replace BK260 := Ext.a (KeepBut.blk hk_ BK260.out NB260_278.out (by simp)); replace BK278 := Ext.a (hx_); replace HB := Ext.a (hbl_ _ _ HB.out GE278.out); clear hx_ hk_ hbl_) | ((with_reducible refine gate_callee (f := 19) rfl ?_); refine Ext.gs (some 85) rfl rfl Try.func19 #[.slice none 0 0] rfl ?_; (refine (sum_Open.calls kj38 (fun k_ => False) _ _ ([] : List Int) t279 t282 _ ?side1 A56.out).mono ?_); (case side1 => exact Kd.V_nil _ _ _ _ _); rintro e w77 ⟨v280, rfl, ho0, hb⟩; refine ⟨_, rfl, ?_⟩; replace HO_261003 := Ext.a (Kd.S_elder' (Ext.nS HO_261003.out) (Kd.R_base ho0) hb); have HO281 := Ext.a (Kd.R_lower (Kd.R_new' (Kd.R_mono (ok' := fun k_ => True) ho0 (fun _ hk_ => trivial)) (Kd.R_lt (Ext.nR HO277.out))) (below_size (Ext.s2 GE260.out GE278.out HB.out))); replace HO277 := Ext.a (Kd.R_elder' (Ext.nR HO277.out) (Kd.R_base ho0) hb); replace BK260 := Ext.a (blk_below BK260.out hb); replace BK278 := Ext.a (blk_below BK278.out hb); replace HB := Ext.a (below_step (Ext.s2 GE260.out GE278.out HB.out) hb); (try clear hb ho0)))
                 replace HO_261003 := Ext.a (Kd.S_drew HO_261003.out); replace HO277 := Ext.a (Kd.R_drew HO277.out); replace HO281 := Ext.a (Kd.R_drew HO281.out); replace BK260 := Ext.a (blk_drew BK260.out); replace BK278 := Ext.a (blk_drew BK278.out); replace HB := Ext.a (below_drew1 HB.out); refine start_ (n := 18) (S := fun w' => w'.cell? ⟨gb278, 0, none⟩ = some (.int .i64 3) ∧ w'.cell? ⟨gb278, 1, none⟩ = some (.int .u64 0) ∧ w'.cell? ⟨gb278, 2, none⟩ = some (.int .i64 0) ∧ w'.cell? ⟨gb278, 3, none⟩ = some (.slice none 0 0) ∧ w'.cell? ⟨gb278, 4, none⟩ = some (.slice none 0 0) ∧ w'.cell? ⟨gb278, 5, none⟩ = some (.slice Ao72 y275.length co72) ∧ w'.cell? ⟨gb278, 6, none⟩ = some (.slice none 0 0)) (ds := []) zb4_0 (by kernel_rfl) rfl rfl ⟨(blk_cell BK278.out 0).trans rfl, (blk_cell BK278.out 1).trans rfl, (blk_cell BK278.out 2).trans rfl, (blk_cell BK278.out 3).trans rfl, (blk_cell BK278.out 4).trans rfl, (blk_cell BK278.out 5).trans rfl, (blk_cell BK278.out 6).trans rfl⟩ (fun hHeld => ?_); refine with_tabW terrierlaw04_PageUsed.tab20 terrierlaw04_PageUsed.bits20 (fun HT_ HW_ => ?_); generalize w77.drew = w78 at HO_261003 HO277 HO281 BK260 BK278 HB hHeld ⊢; refine pure_ (i := 0) (N := some 88) (v := ?_) (a' := ?_) zb4_1 rfl rfl (any_of HT_.out (by kernel_rfl)) (fun _ _ _ h => h) (Or.inl ⟨by rfl, ?_⟩) ?_ ?_; rotate_left
                 · intro w'; go_simp; with_reducible rfl
                 rotate_left
                 · simp only [Act.put, Ext.sb, Ext.sz, Ext.ss, i64_w, i32_w]; rfl
                 refine pure_ (i := 1) (N := some 89) (v := ?_) (a' := ?_) zb4_2 rfl rfl (any_of HT_.out (by kernel_rfl)) (fun _ _ _ h => h) (Or.inl ⟨by rfl, ?_⟩) ?_ ?_; rotate_left
                 · intro w'; go_simp; with_reducible rfl
                 rotate_left
                 · simp only [Act.put, Ext.sb, Ext.sz, Ext.ss, i64_w, i32_w]; rfl
                 refine pure_ (i := 2) (N := some 90) (v := ?_) (a' := ?_) zb4_3 rfl rfl (any_of HT_.out (by kernel_rfl)) (fun _ _ _ h => h) (Or.inl ⟨by rfl, ?_⟩) ?_ ?_; rotate_left
                 · intro w'; go_simp; with_reducible rfl
                 rotate_left
                 · simp only [Act.put, Ext.sb, Ext.sz, Ext.ss, i64_w, i32_w]; rfl
                 refine pure_ (i := 5) (N := some 93) (v := ?_) (a' := ?_) zb4_14 rfl rfl (any_of HT_.out (by kernel_rfl)) (fun _ _ _ h => h) (Or.inl ⟨by rfl, ?_⟩) ?_ ?_; rotate_left
                 · intro w'; go_simp; with_reducible rfl
                 rotate_left
                 · simp only [Act.put, Ext.sb, Ext.sz, Ext.ss, i64_w, i32_w]; rfl
                 refine take_ (i := 3) (N := some 91) (v := ?_) (a' := ?_) zb4_15 rfl rfl (take_ofW HT_.out HW_.out (by kernel_rfl)) (fun _ _ _ h => h) (Or.inl ⟨by rfl, ?_⟩) hHeld ?_ ?_; rotate_left
                 · rintro w' ⟨s0, s1, s2, s3, s4, s5, s6⟩; go_simp; with_reducible rfl
                 rotate_left
                 · simp only [Act.put, Ext.sb, Ext.sz, Ext.ss, i64_w, i32_w]; rfl
                 refine take_ (i := 6) (N := some 94) (v := ?_) (a' := ?_) zb4_16 rfl rfl (take_ofW HT_.out HW_.out (by kernel_rfl)) (fun _ _ _ h => h) (Or.inl ⟨by rfl, ?_⟩) hHeld ?_ ?_; rotate_left
                 · rintro w' ⟨s0, s1, s2, s3, s4, s5, s6⟩; go_simp; with_reducible rfl
                 rotate_left
                 · simp only [Act.put, Ext.sb, Ext.sz, Ext.ss, i64_w, i32_w]; rfl
                 refine pure_ (i := 7) (N := some 95) (v := ?_) (a' := ?_) zb4_17 rfl rfl (any_of HT_.out (by kernel_rfl)) (fun _ _ _ h => h) (Or.inl ⟨by rfl, ?_⟩) ?_ ?_; rotate_left
                 · intro w'; go_simp; with_reducible rfl
                 rotate_left
                 · simp only [Act.put, Ext.sb, Ext.sz, Ext.ss, i64_w, i32_w]; rfl
                 refine pure_ (i := 8) (N := some 96) (v := ?_) (a' := ?_) zb4_18 rfl rfl (any_of HT_.out (by kernel_rfl)) (fun _ _ _ h => h) (Or.inl ⟨by rfl, ?_⟩) ?_ ?_; rotate_left
                 · intro w'; go_simp; with_reducible rfl
                 rotate_left
                 · simp only [Act.put, Ext.sb, Ext.sz, Ext.ss, i64_w, i32_w]; rfl
                 refine one_ (i := 4) (N := some 92) zb4_4 rfl rfl (one_of HT_.out (by kernel_rfl)) (by decide) (fun K hK => ?_); refine goes_ Try.func14 (by kernel_rfl) rfl #[.agg #[.int .i64 3, .int .u64 0, .int .i64 0, .slice none 0 0, .slice none 0 0, .slice Ao72 y275.length co72, .slice none 0 0]] (by rfl) rfl rfl (by (try simp only [List.map_toArray, List.map_cons, List.map_nil]); first | done | rfl | (simp only [List.length_drop, List.length_take]; rfl)) ?_; refine (page_Right.calls kj38 3 0 0 _ _ ([] : List (S44)) _ _ ([] : List (S60)) _ _ y275 _ _ ([] : List Int) t283 _ ?side1 ?side2 ?side3 ?side4 ?side5 ?side6 ?side7 ?side8 A58.out).mono ?_
                 (case side1 => exact Kd.C_nil _ _)
                 (case side2 => exact Nat.le_refl _)
                 (case side3 => exact Kd.C_nil _ _)
                 (case side4 => exact Nat.le_refl _)
                 (case side5 => exact Ext.nC (Kd.R_reads' HO277.out).2.2)
                 (case side6 => exact (Kd.R_reads' HO277.out).2.1)
                 (case side7 => exact Kd.C_nil _ _)
                 (case side8 => exact Nat.le_refl _)
                 rintro e w79 ⟨rfl, hb⟩; refine ⟨_, rfl, ?_⟩; replace HO_261003 := Ext.a (Kd.S_below (Ext.nS HO_261003.out) hb); replace HO277 := Ext.a (Kd.R_below (Ext.nR HO277.out) hb); replace HO281 := Ext.a (Kd.R_below (Ext.nR HO281.out) hb); replace BK260 := Ext.a (blk_below BK260.out hb); replace BK278 := Ext.a (blk_below BK278.out hb); replace HB := Ext.a (below_step (Ext.s2 GE260.out GE278.out HB.out) hb); (try clear hb); refine hK.out _ _ ⟨(blk_cell BK278.out 0).trans rfl, (blk_cell BK278.out 1).trans rfl, (blk_cell BK278.out 2).trans rfl, (blk_cell BK278.out 3).trans rfl, (blk_cell BK278.out 4).trans rfl, (blk_cell BK278.out 5).trans rfl, (blk_cell BK278.out 6).trans rfl⟩ (fun hHeld => ?_); clear hK K; refine norm_ (a' := ?_) ?_ ?_; rotate_left
                 · show Act.put _ (some 92) _ = _; simp only [Act.put, Ext.sb, Ext.sz, Ext.ss, i64_w, i32_w]; rfl
                 refine pure_ (i := 9) (N := some 97) (v := ?_) (a' := ?_) zb4_5 rfl rfl (any_of HT_.out (by kernel_rfl)) (fun _ _ _ h => h) (Or.inl ⟨by rfl, ?_⟩) ?_ ?_; rotate_left
                 · intro w'; go_simp; with_reducible rfl
                 rotate_left
                 · simp only [Act.put, Ext.sb, Ext.sz, Ext.ss, i64_w, i32_w]; rfl
                 refine pure_ (i := 10) (N := some 98) (v := undef) (a' := ?_) zb4_6 rfl rfl (any_of HT_.out (by kernel_rfl)) (fun _ _ _ h => h) (Or.inr ⟨by rfl, rfl⟩) ?_ ?_; rotate_left
                 · simp only [Act.put, Ext.sb, Ext.sz, Ext.ss, i64_w, i32_w]; rfl
                 refine pure_ (i := 11) (N := some 99) (v := undef) (a' := ?_) zb4_7 rfl rfl (any_of HT_.out (by kernel_rfl)) (fun _ _ _ h => h) (Or.inr ⟨by rfl, rfl⟩) ?_ ?_; rotate_left
                 · simp only [Act.put, Ext.sb, Ext.sz, Ext.ss, i64_w, i32_w]; rfl
                 refine pure_ (i := 12) (N := some 100) (v := undef) (a' := ?_) zb4_8 rfl rfl (any_of HT_.out (by kernel_rfl)) (fun _ _ _ h => h) (Or.inr ⟨by rfl, rfl⟩) ?_ ?_; rotate_left
                 · simp only [Act.put, Ext.sb, Ext.sz, Ext.ss, i64_w, i32_w]; rfl
                 refine pure_ (i := 13) (N := some 101) (v := undef) (a' := ?_) zb4_9 rfl rfl (any_of HT_.out (by kernel_rfl)) (fun _ _ _ h => h) (Or.inr ⟨by rfl, rfl⟩) ?_ ?_; rotate_left
                 · simp only [Act.put, Ext.sb, Ext.sz, Ext.ss, i64_w, i32_w]; rfl
                 refine pure_ (i := 14) (N := some 102) (v := ?_) (a' := ?_) zb4_10 rfl rfl (any_of HT_.out (by kernel_rfl)) (fun _ _ _ h => h) (Or.inl ⟨by rfl, ?_⟩) ?_ ?_; rotate_left
                 · intro w'; go_simp; with_reducible rfl
                 rotate_left
                 · simp only [Act.put, Ext.sb, Ext.sz, Ext.ss, i64_w, i32_w]; rfl
                 refine pure_ (i := 15) (N := some 103) (v := ?_) (a' := ?_) zb4_11 rfl rfl (any_of HT_.out (by kernel_rfl)) (fun _ _ _ h => h) (Or.inl ⟨by rfl, ?_⟩) ?_ ?_; rotate_left
                 · intro w'; go_simp; with_reducible rfl
                 rotate_left
                 · simp only [Act.put, Ext.sb, Ext.sz, Ext.ss, i64_w, i32_w]; rfl
                 refine pure_ (i := 16) (N := some 104) (v := ?_) (a' := ?_) zb4_12 rfl rfl (any_of HT_.out (by kernel_rfl)) (fun _ _ _ h => h) (Or.inl ⟨by rfl, ?_⟩) ?_ ?_; rotate_left
                 · intro w'; go_simp; with_reducible rfl
                 rotate_left
                 · simp only [Act.put, Ext.sb, Ext.sz, Ext.ss, i64_w, i32_w]; rfl
                 refine pure_ (i := 17) (N := some 4) (v := ?_) (a' := ?_) zb4_13 rfl rfl (any_of HT_.out (by kernel_rfl)) (fun _ _ _ h => h) (Or.inl ⟨by rfl, ?_⟩) ?_ ?_; rotate_left
                 · intro w'; go_simp; with_reducible rfl
                 rotate_left
                 · simp only [Act.put, Ext.sb, Ext.sz, Ext.ss, i64_w, i32_w]; rfl
                 refine done_ (done_of HT_.out (by kernel_rfl)) ?_
                 try go_wp2
                 go_ret
                 exact ⟨by first | rfl | (simp [errW_none, errW_some] <;> rfl) | (simp only [← hji53]; first | rfl | (simp [errW_none, errW_some] <;> rfl)) | (simp [*, errW_none, errW_some] <;> rfl), by exact Ext.s2 GE260.out GE278.out HB.out⟩
               ·
                rw [if_neg c57] at H; obtain ⟨c57b0, c57b1⟩ := Ext.eF c57; obtain rfl := Option.some.inj H
                try go_wp2_with (first | ((with_reducible refine gate_dst (N := 82) rfl ?_); (try (refine gate_guard (by rfl) ?_; dsimp only)); refine Kd.R_make (Kd.int .u8) _ 5 rfl (N := 82) rfl 25 _ _ rfl ji53 rfl rfl Try.underlying25 (.int .u8 0) 1 info5 rfl (by decide) (by omega) 0 (ok := fun _ => True) (okp := fun _ => True) rfl (fun _ hk => hk) trivial (of_decide_eq_true (by first | (with_reducible assumption) | assumption)) (Nat.le_trans (Nat.mul_le_mul_right _ (of_decide_eq_true (by first | (with_reducible assumption) | assumption) : ji53.toNat ≤ 281474976710656)) (by omega)) (Below.refl _ _) (Nat.le_refl _) ?_; intro v276 w80 ho81 hb hg_ hnew_; clear hg_ hnew_; (first | rw [← Ny275.out] at ho81 | (simp only [Int.reduceToNat] at ho81; rw [← Ny275.out] at ho81)); replace HO_261003 := Ext.a (Kd.S_elder' (Ext.nS HO_261003.out) (Kd.R_base ho81) hb); have HO277 := Ext.a (Kd.R_lower ho81 (below_size (Ext.s1 GE260.out HB.out))); replace BK260 := Ext.a (blk_below BK260.out hb); replace HB := Ext.a (below_step (Ext.s1 GE260.out HB.out) hb); clear hb ho81; obtain ⟨Ao82, co82, eo82⟩ := Kd.R_slice HO277.out; subst eo82) | ((with_reducible refine gate_dst (N := 12) rfl ?_); (try (refine gate_guard (by rfl) ?_; dsimp only)); refine Ext.alloc_event (hgd := ?hg) (N := 12) (_hd := ?hd) (t := 28) (ho := ?ho) info28 ?_; (case ho => rfl); (case hd => rfl); (case hg => rfl); intro gb278 hg w83 hbox hb; replace HO_261003 := Ext.a (Kd.S_below (Ext.nS HO_261003.out) hb); replace HO277 := Ext.a (Kd.R_below (Ext.nR HO277.out) hb); have BK278 := Ext.a (hbox); have GW278 := Ext.gw hg (below_size (Ext.s1 GE260.out HB.out)); have GE278 := Ext.gw hg (below_size (Ext.s1 GE260.out HB.out)); replace HB := Ext.a (below_step (Ext.s1 GE260.out HB.out) hb); have NB260_278 := Ext.nt hg (blk_lt BK260.out); have NB278_260 := Ext.ng hg (blk_lt BK260.out); replace BK260 := Ext.a (blk_below BK260.out hb); clear hb hbox hg; have hnb84 := NB278_260.out; have hnc84 := NB260_278.out; have hcz85 := Ext.cells7 BK278.out; have hfz85 := Ext.froz7 BK278.out) | ((with_reducible refine gate_store (t := 28) (p := 12) rfl ?_); refine Ext.struct_store (hgd := ?hg) (hN := ?hn) (t := 28) (p := .tmp 12) (x := ?vo_w86) (ho := ?ho) (cells := #[.int .i64 3, .int .u64 0, .int .i64 0, .slice none 0 0, .slice none 0 0, .slice Ao82 y275.length co82, .slice none 0 0]) (haddr := ?ha) (hx := ?hx) BK278.out rfl (by kernel_rfl) rfl ?_; (case ho => rfl); (case hg => rfl); (case hn => rfl); (case ha => rfl); (case hx => first | rfl | (go_simp; done)); intro w86 hx_ hk_ hbl_; replace HO_261003 := Ext.a (Kd.S_mono (Kd.S_keep (Kd.S_types HO_261003.out BK278.out (by decide)) hk_ (fun _ h => h.2)) (fun _ h => h.1)); replace HO277 := Ext.a (Kd.R_mono (Kd.R_keep (Kd.R_types HO277.out BK278.out (by decide)) hk_ (fun _ h => h.2)) (fun _ h => h.1)); replace BK260 := Ext.a (KeepBut.blk hk_ BK260.out NB260_278.out (by simp)); replace BK278 := Ext.a (hx_); replace HB := Ext.a (hbl_ _ _ HB.out GE278.out); clear hx_ hk_ hbl_) | ((with_reducible refine gate_callee (f := 19) rfl ?_); refine Ext.gs (some 85) rfl rfl Try.func19 #[.slice none 0 0] rfl ?_; (refine (sum_Open.calls kj38 (fun k_ => False) _ _ ([] : List Int) t279 t282 _ ?side1 A56.out).mono ?_); (case side1 => exact Kd.V_nil _ _ _ _ _); rintro e w87 ⟨v280, rfl, ho0, hb⟩; refine ⟨_, rfl, ?_⟩; replace HO_261003 := Ext.a (Kd.S_elder' (Ext.nS HO_261003.out) (Kd.R_base ho0) hb); have HO281 := Ext.a (Kd.R_lower (Kd.R_new' (Kd.R_mono (ok' := fun k_ => True) ho0 (fun _ hk_ => trivial)) (Kd.R_lt (Ext.nR HO277.out))) (below_size (Ext.s2 GE260.out GE278.out HB.out))); replace HO277 := Ext.a (Kd.R_elder' (Ext.nR HO277.out) (Kd.R_base ho0) hb); replace BK260 := Ext.a (blk_below BK260.out hb); replace BK278 := Ext.a (blk_below BK278.out hb); replace HB := Ext.a (below_step (Ext.s2 GE260.out GE278.out HB.out) hb); (try clear hb ho0)))
                replace HO_261003 := Ext.a (Kd.S_drew HO_261003.out); replace HO277 := Ext.a (Kd.R_drew HO277.out); replace HO281 := Ext.a (Kd.R_drew HO281.out); replace BK260 := Ext.a (blk_drew BK260.out); replace BK278 := Ext.a (blk_drew BK278.out); replace HB := Ext.a (below_drew1 HB.out); refine start_ (n := 18) (S := fun w' => True) (ds := []) zb4_0 (by kernel_rfl) rfl rfl trivial (fun hHeld => ?_); refine with_tabW terrierlaw04_PageUsed.tab20 terrierlaw04_PageUsed.bits20 (fun HT_ HW_ => ?_); generalize w87.drew = w88 at HO_261003 HO277 HO281 BK260 BK278 HB hHeld ⊢; refine pure_ (i := 0) (N := some 88) (v := ?_) (a' := ?_) zb4_1 rfl rfl (any_of HT_.out (by kernel_rfl)) (fun _ _ _ h => h) (Or.inl ⟨by rfl, ?_⟩) ?_ ?_; rotate_left
                · intro w'; go_simp; with_reducible rfl
                rotate_left
                · simp only [Act.put, Ext.sb, Ext.sz, Ext.ss, i64_w, i32_w]; rfl
                refine pure_ (i := 1) (N := some 89) (v := ?_) (a' := ?_) zb4_2 rfl rfl (any_of HT_.out (by kernel_rfl)) (fun _ _ _ h => h) (Or.inl ⟨by rfl, ?_⟩) ?_ ?_; rotate_left
                · intro w'; go_simp; with_reducible rfl
                rotate_left
                · simp only [Act.put, Ext.sb, Ext.sz, Ext.ss, i64_w, i32_w]; rfl
                refine pure_ (i := 2) (N := some 90) (v := ?_) (a' := ?_) zb4_3 rfl rfl (any_of HT_.out (by kernel_rfl)) (fun _ _ _ h => h) (Or.inl ⟨by rfl, ?_⟩) ?_ ?_; rotate_left
                · intro w'; go_simp; with_reducible rfl
                rotate_left
                · simp only [Act.put, Ext.sb, Ext.sz, Ext.ss, i64_w, i32_w]; rfl
                refine pure_ (i := 3) (N := some 91) (v := undef) (a' := ?_) #[true, true, true, true, false, false, false, false, false, false, false, false, false, false, false, false, false, false] rfl rfl (any_of HT_.out (by kernel_rfl)) (fun _ _ _ h => h) (Or.inr ⟨by rfl, rfl⟩) ?_ ?_; rotate_left
                · simp only [Act.put, Ext.sb, Ext.sz, Ext.ss, i64_w, i32_w]; rfl
                refine pure_ (i := 4) (N := some 92) (v := undef) (a' := ?_) #[true, true, true, true, true, false, false, false, false, false, false, false, false, false, false, false, false, false] rfl rfl (any_of HT_.out (by kernel_rfl)) (fun _ _ _ h => h) (Or.inr ⟨by rfl, rfl⟩) ?_ ?_; rotate_left
                · simp only [Act.put, Ext.sb, Ext.sz, Ext.ss, i64_w, i32_w]; rfl
                refine pure_ (i := 5) (N := some 93) (v := undef) (a' := ?_) #[true, true, true, true, true, true, false, false, false, false, false, false, false, false, false, false, false, false] rfl rfl (any_of HT_.out (by kernel_rfl)) (fun _ _ _ h => h) (Or.inr ⟨by rfl, rfl⟩) ?_ ?_; rotate_left
                · simp only [Act.put, Ext.sb, Ext.sz, Ext.ss, i64_w, i32_w]; rfl
                refine pure_ (i := 6) (N := some 94) (v := undef) (a' := ?_) #[true, true, true, true, true, true, true, false, false, false, false, false, false, false, false, false, false, false] rfl rfl (any_of HT_.out (by kernel_rfl)) (fun _ _ _ h => h) (Or.inr ⟨by rfl, rfl⟩) ?_ ?_; rotate_left
                · simp only [Act.put, Ext.sb, Ext.sz, Ext.ss, i64_w, i32_w]; rfl
                refine pure_ (i := 7) (N := some 95) (v := undef) (a' := ?_) #[true, true, true, true, true, true, true, true, false, false, false, false, false, false, false, false, false, false] rfl rfl (any_of HT_.out (by kernel_rfl)) (fun _ _ _ h => h) (Or.inr ⟨by rfl, rfl⟩) ?_ ?_; rotate_left
                · simp only [Act.put, Ext.sb, Ext.sz, Ext.ss, i64_w, i32_w]; rfl
                refine pure_ (i := 8) (N := some 96) (v := undef) (a' := ?_) zb4_4 rfl rfl (any_of HT_.out (by kernel_rfl)) (fun _ _ _ h => h) (Or.inr ⟨by rfl, rfl⟩) ?_ ?_; rotate_left
                · simp only [Act.put, Ext.sb, Ext.sz, Ext.ss, i64_w, i32_w]; rfl
                refine pure_ (i := 9) (N := some 97) (v := undef) (a' := ?_) zb4_5 rfl rfl (any_of HT_.out (by kernel_rfl)) (fun _ _ _ h => h) (Or.inr ⟨by rfl, rfl⟩) ?_ ?_; rotate_left
                · simp only [Act.put, Ext.sb, Ext.sz, Ext.ss, i64_w, i32_w]; rfl
                refine pure_ (i := 10) (N := some 98) (v := undef) (a' := ?_) zb4_6 rfl rfl (any_of HT_.out (by kernel_rfl)) (fun _ _ _ h => h) (Or.inr ⟨by rfl, rfl⟩) ?_ ?_; rotate_left
                · simp only [Act.put, Ext.sb, Ext.sz, Ext.ss, i64_w, i32_w]; rfl
                refine pure_ (i := 11) (N := some 99) (v := undef) (a' := ?_) zb4_7 rfl rfl (any_of HT_.out (by kernel_rfl)) (fun _ _ _ h => h) (Or.inr ⟨by rfl, rfl⟩) ?_ ?_; rotate_left
                · simp only [Act.put, Ext.sb, Ext.sz, Ext.ss, i64_w, i32_w]; rfl
                refine pure_ (i := 12) (N := some 100) (v := undef) (a' := ?_) zb4_8 rfl rfl (any_of HT_.out (by kernel_rfl)) (fun _ _ _ h => h) (Or.inr ⟨by rfl, rfl⟩) ?_ ?_; rotate_left
                · simp only [Act.put, Ext.sb, Ext.sz, Ext.ss, i64_w, i32_w]; rfl
                refine pure_ (i := 13) (N := some 101) (v := undef) (a' := ?_) zb4_9 rfl rfl (any_of HT_.out (by kernel_rfl)) (fun _ _ _ h => h) (Or.inr ⟨by rfl, rfl⟩) ?_ ?_; rotate_left
                · simp only [Act.put, Ext.sb, Ext.sz, Ext.ss, i64_w, i32_w]; rfl
                refine pure_ (i := 14) (N := some 102) (v := undef) (a' := ?_) zb4_10 rfl rfl (any_of HT_.out (by kernel_rfl)) (fun _ _ _ h => h) (Or.inr ⟨by rfl, rfl⟩) ?_ ?_; rotate_left
                · simp only [Act.put, Ext.sb, Ext.sz, Ext.ss, i64_w, i32_w]; rfl
                refine pure_ (i := 15) (N := some 103) (v := undef) (a' := ?_) zb4_11 rfl rfl (any_of HT_.out (by kernel_rfl)) (fun _ _ _ h => h) (Or.inr ⟨by rfl, rfl⟩) ?_ ?_; rotate_left
                · simp only [Act.put, Ext.sb, Ext.sz, Ext.ss, i64_w, i32_w]; rfl
                refine pure_ (i := 16) (N := some 104) (v := ?_) (a' := ?_) zb4_12 rfl rfl (any_of HT_.out (by kernel_rfl)) (fun _ _ _ h => h) (Or.inl ⟨by rfl, ?_⟩) ?_ ?_; rotate_left
                · intro w'; go_simp; with_reducible rfl
                rotate_left
                · simp only [Act.put, Ext.sb, Ext.sz, Ext.ss, i64_w, i32_w]; rfl
                refine pure_ (i := 17) (N := some 4) (v := ?_) (a' := ?_) zb4_13 rfl rfl (any_of HT_.out (by kernel_rfl)) (fun _ _ _ h => h) (Or.inl ⟨by rfl, ?_⟩) ?_ ?_; rotate_left
                · intro w'; go_simp; with_reducible rfl
                rotate_left
                · simp only [Act.put, Ext.sb, Ext.sz, Ext.ss, i64_w, i32_w]; rfl
                refine done_ (done_of HT_.out (by kernel_rfl)) ?_
                try go_wp2
                go_ret
                exact ⟨by first | rfl | (simp [errW_none, errW_some] <;> rfl) | (simp only [← hji53]; first | rfl | (simp [errW_none, errW_some] <;> rfl)) | (simp [*, errW_none, errW_some] <;> rfl), by exact Ext.s2 GE260.out GE278.out HB.out⟩
              · rw [if_neg c55] at H; exact absurd H (by simp)
             · rw [if_neg c54] at H; exact absurd H (by simp)

/-- THE ONE PURE STATEMENT of terrierlaw04_PageUsed: yours. -/
def terrierlaw04_PageUsed.Pure : Prop := ∀ (l0 : List Int) (a1 : Int), l0.length ≤ maxLen → l0.length * 1 ≤ 140737488351232 → (∀ x ∈ l0, (Lit.int .u8 x).wf = true) → (Lit.int .i64 a1).wf = true → ∃ k, terrierlaw04_PageUsed.f k l0 a1 = some true
theorem terrierlaw04_PageUsed.walk (P : terrierlaw04_PageUsed.Pure) (a0 : Option Addr) (len0 cap0 : Nat) (z0 : List Int) (a1 : Int) (w : World) (w0 : (a0 = none ∧ len0 = 0 ∧ cap0 = 0 ∧ z0 = []) ∨ ∃ x, a0 = some x ∧ len0 ≤ cap0 ∧ cap0 ≤ maxLen ∧ z0.length = cap0 ∧ (∀ i, i < z0.length → w.cell? (x.add i) = some (.int .u8 (z0.getD i 0))) ∧ ∀ n ∈ z0, (Lit.int .u8 n).wf = true) (y0 : len0 * 1 ≤ 140737488351232) (w1 : (Lit.int .i64 a1).wf = true) :
  Calls Try.prog 4 #[.slice a0 len0 cap0, .int .i64 a1] w fun e w' => e = .returned (.bool true) ∧ Below w.heap.size w w' := by
 obtain ⟨l0, rfl, hr0, hm0, hw0, hc0⟩ := ReadsInt.ofRowC w0; obtain ⟨k, h⟩ := P l0 a1 hm0 y0 hw0 w1; refine (terrierlaw04_PageUsed.calls k _ _ l0 a1 true w (Kd.C_of_reads (d := (0 : Int)) (h1 := fun _ => rfl) hr0) hc0 h).mono ?_; rintro e w' ⟨rfl, hd⟩
 exact ⟨rfl, hd⟩

end Go.Proofs.Ytandeendeoempaa.PM
