-- Written by wip/printx.py, a program of this work over the kit's print, for this claim.
import Derived.Test.YtandeendeoempaaPCx0
import Derived.Test.YtandeendeoempaaPCx10
namespace Go.Proofs.Ytandeendeoempaa.PC
open Go.RowKit Go.Proofs.YtandeendeoempaaW.PrintWords Go.Proofs.YtandeendeoempaaW.PrintLast Go.Proofs.YtandeendeoempaaW.PrintMore
attribute [local go_sem] max2_int min2_int max_two min_two max_three min_three max_four min_four   -- for this text's walks alone
attribute [local go_sem] Ext.pick_u8 Ext.pick_u32 Ext.pick_u64
set_option linter.unusedVariables false
set_option linter.unusedSimpArgs false



/-! ### terrierref02_Sum: function 35 -/
mutual
def terrierref02_Sum.l0 : Nat → Int → List Int → Int → Int → Option (Int)
 | 0, _, _, _, _ => none
 | k + 1, x3, x8, x9, x10 => if x10 < x9 then (if 0 ≤ x10 then (if x10 < (x8.length : Int) then (terrierref02_Sum.l1 k (Go.bits .xor .u32 x3 ((rd x8 x10) % 4294967296)) 0 x8 x9 x10) else (none)) else (none)) else (some (Go.bits .xor .u32 4294967295 x3))
def terrierref02_Sum.l1 : Nat → Int → Int → List Int → Int → Int → Option (Int)
 | 0, _, _, _, _, _ => none
 | k + 1, x3, x6, x8, x9, x10 => if x6 < 8 then (if (Int.tmod x3 2) = 1 then (terrierref02_Sum.l1 k (Go.bits .xor .u32 ((Int.tdiv x3 2) % 4294967296) 2197175160) (wrap64 (x6 + 1)) x8 x9 x10) else (terrierref02_Sum.l1 k ((Int.tdiv x3 2) % 4294967296) (wrap64 (x6 + 1)) x8 x9 x10)) else (terrierref02_Sum.l0 k x3 x8 x9 (wrap64 (x10 + 1)))
end
def terrierref02_Sum.f (k : Nat) (l0 : List Int) : Option (Int) := terrierref02_Sum.l0 k 4294967295 l0 (l0.length : Int) 0
theorem terrierref02_Sum.mono_l : ∀ k, (∀ y0 y1 y2 y3, LeO (terrierref02_Sum.l0 k y0 y1 y2 y3) (terrierref02_Sum.l0 (k + 1) y0 y1 y2 y3)) ∧ (∀ y0 y1 y2 y3 y4, LeO (terrierref02_Sum.l1 k y0 y1 y2 y3 y4) (terrierref02_Sum.l1 (k + 1) y0 y1 y2 y3 y4))
 | 0 => ⟨fun _ _ _ _ r h => by simp [terrierref02_Sum.l0] at h, fun _ _ _ _ _ r h => by simp [terrierref02_Sum.l1] at h⟩
 | k + 1 => by
  obtain ⟨ih0, ih1⟩ := terrierref02_Sum.mono_l k; refine ⟨?_, ?_⟩
  ·
   intro y0 y1 y2 y3
   unfold terrierref02_Sum.l0
   repeat' first
   | (with_reducible exact ih0 _ _ _ _)
   | (with_reducible exact ih1 _ _ _ _ _)
   | (with_reducible exact LeO.refl _)
   | (with_reducible exact LeO.none _)
   | (with_reducible refine LeO.ite ?_ ?_)
   | (with_reducible refine LeO.bind ?_ (fun _ => ?_))
   | exact ih0 _ _ _ _
   | exact ih1 _ _ _ _ _
   | exact LeO.none _
   | refine LeO.ite ?_ ?_
   | refine LeO.bind ?_ (fun _ => ?_)
  ·
   intro y0 y1 y2 y3 y4
   unfold terrierref02_Sum.l1
   repeat' first
   | (with_reducible exact ih0 _ _ _ _)
   | (with_reducible exact ih1 _ _ _ _ _)
   | (with_reducible exact LeO.refl _)
   | (with_reducible exact LeO.none _)
   | (with_reducible refine LeO.ite ?_ ?_)
   | (with_reducible refine LeO.bind ?_ (fun _ => ?_))
   | exact ih0 _ _ _ _
   | exact ih1 _ _ _ _ _
   | exact LeO.none _
   | refine LeO.ite ?_ ?_
   | refine LeO.bind ?_ (fun _ => ?_)
theorem terrierref02_Sum.mono : ∀ a0 k, LeO (terrierref02_Sum.f k a0) (terrierref02_Sum.f (k + 1) a0) := by
 intro a0 k
 obtain ⟨ih0, ih1⟩ := terrierref02_Sum.mono_l k; unfold terrierref02_Sum.f
 repeat' first
   | (with_reducible exact ih0 _ _ _ _)
   | (with_reducible exact ih1 _ _ _ _ _)
   | (with_reducible exact LeO.refl _)
   | (with_reducible exact LeO.none _)
   | (with_reducible refine LeO.ite ?_ ?_)
   | (with_reducible refine LeO.bind ?_ (fun _ => ?_))
   | exact ih0 _ _ _ _
   | exact ih1 _ _ _ _ _
   | exact LeO.none _
   | refine LeO.ite ?_ ?_
   | refine LeO.bind ?_ (fun _ => ?_)
set_option maxHeartbeats 8000000 in
set_option maxRecDepth 100000 in
theorem terrierref02_Sum.calls (k : Nat) (A0 : Option Addr) (c0 : Nat) (l0 : List Int) (r : Int) (w : World) (hr0 : Kd.C (Kd.int .u8) w A0 l0.length l0) (hc0 : l0.length ≤ c0) (h : terrierref02_Sum.f k l0 = some r) :
  Calls Try.prog 35 #[.slice A0 l0.length c0] w fun e w' => e = .returned (.int .u32 r) ∧ Drawn0 w w' := by
 have HR0 := Aside0.mk hr0; have HC0 := Aside0.mk hc0; clear hr0 hc0; have H := h; unfold terrierref02_Sum.f at H; clear h; have H' := Aside0.mk H; clear H
 go_enter Try.func35, Try.ntmps35
 go_wp2
 go_loopg [3, 10] k (fun kq v3 v10 w' => ∃ (x3_1 : Int) (x10_1 : Int), v3 = .int .u32 x3_1 ∧ v10 = .int .i64 x10_1 ∧ Aside0 (terrierref02_Sum.l0 kq x3_1 l0 (l0.length : Int) x10_1 = some r) ∧ Aside0 (kq ≤ k) ∧ Drawn0 w w')
 case atStart => exact ⟨(4294967295), (0), (by first | rfl | (simp; done) | (simp [*]; done)), (by first | rfl | (simp; done) | (simp [*]; done)), H', ⟨Nat.le_refl _⟩, by repeat (first | exact Drawn0.refl _ | apply Drawn0.step)⟩
 case round =>
  clear H'; obtain ⟨x3_1, x10_1, rfl, rfl, HA, HK1, ⟨m1, rfl⟩⟩ := hrel; cases gk with
  | zero => exact absurd HA.out (by simp [terrierref02_Sum.l0])
  | succ k1 =>
   have H := HA.out; clear HA; simp only [terrierref02_Sum.l0] at H
   by_cases c2 : x10_1 < (l0.length : Int)
   ·
    rw [if_pos c2] at H; have c2b0 := decide_eq_true c2; clear c2
    by_cases c3 : 0 ≤ x10_1
    ·
     rw [if_pos c3] at H; have c3b0 := decide_eq_true c3; clear c3
     by_cases c4 : x10_1 < (l0.length : Int)
     ·
      rw [if_pos c4] at H; have c4b0 := decide_eq_true c4; clear c4; have H' := Aside0.mk H; clear H; have p341 : 0 ≤ (x10_1 : Int) := of_decide_eq_true (by first | (with_reducible assumption) | assumption); have q341 : x10_1 < (l0.length : Int) := of_decide_eq_true (by first | (with_reducible assumption) | assumption); obtain ⟨ad341, e341, hx341_0⟩ := Kd.at_int HR0.out x10_1 p341 q341; cases e341; replace p341 := eq_true p341; replace q341 := eq_true q341
      go_wp2
      go_loopg [3, 6] k1 (fun kq v3 v6 w' => ∃ (x3_2 : Int) (x6_2 : Int), v3 = .int .u32 x3_2 ∧ v6 = .int .i64 x6_2 ∧ Aside0 (terrierref02_Sum.l1 kq x3_2 x6_2 l0 (l0.length : Int) x10_1 = some r) ∧ Aside0 (kq ≤ k1) ∧ Drawn0 w w')
      case atStart => exact ⟨(Go.bits .xor .u32 x3_1 ((rd l0 x10_1) % 4294967296)), (0), (by first | rfl | (simp; done) | (simp [*]; done)), (by first | rfl | (simp; done) | (simp [*]; done)), H', ⟨Nat.le_refl _⟩, by repeat (first | exact Drawn0.refl _ | apply Drawn0.step)⟩
      case round =>
       clear H'; (try clear c2b0 p2 c3b0 p3 q3 hx3 c4b0 hx341_0 p341 q341); obtain ⟨x3_2, x6_2, rfl, rfl, HA, HK2, ⟨m2, rfl⟩⟩ := hrel; cases gk with
       | zero => exact absurd HA.out (by simp [terrierref02_Sum.l1])
       | succ k2 =>
        have H := HA.out; clear HA; simp only [terrierref02_Sum.l1] at H
        by_cases c5 : x6_2 < 8
        ·
         rw [if_pos c5] at H; have c5b0 := decide_eq_true c5; clear c5
         by_cases c6 : (Int.tmod x3_2 2) = 1
         ·
          rw [if_pos c6] at H; obtain ⟨c6b0, c6b1⟩ := Ext.eT c6; clear c6; have H' := Aside0.mk H; clear H
          go_wp2
          go_roundg k2
          case measure => have := HK1.out; have := HK2.out; omega
          case rel => exact ⟨(Go.bits .xor .u32 ((Int.tdiv x3_2 2) % 4294967296) 2197175160), (wrap64 (x6_2 + 1)), (by first | rfl | (simp; done) | (simp [*]; done)), (by first | rfl | (simp; done) | (simp [*]; done)), H', ⟨by have := HK1.out; have := HK2.out; omega⟩, by repeat (first | exact Drawn0.refl _ | apply Drawn0.step)⟩
         ·
          rw [if_neg c6] at H; obtain ⟨c6b0, c6b1⟩ := Ext.eF c6; have H' := Aside0.mk H; clear H
          go_wp2
          go_roundg k2
          case measure => have := HK1.out; have := HK2.out; omega
          case rel => exact ⟨((Int.tdiv x3_2 2) % 4294967296), (wrap64 (x6_2 + 1)), (by first | rfl | (simp; done) | (simp [*]; done)), (by first | rfl | (simp; done) | (simp [*]; done)), H', ⟨by have := HK1.out; have := HK2.out; omega⟩, by repeat (first | exact Drawn0.refl _ | apply Drawn0.step)⟩
        ·
         rw [if_neg c5] at H; have c5b0 := decide_eq_false c5; clear c5; have H' := Aside0.mk H; clear H
         go_wp2
         go_roundg k2
         case measure => have := HK1.out; have := HK2.out; omega
         case rel => exact ⟨(x3_2), (wrap64 (x10_1 + 1)), (by first | rfl | (simp; done) | (simp [*]; done)), (by first | rfl | (simp; done) | (simp [*]; done)), H', ⟨by have := HK1.out; have := HK2.out; omega⟩, by repeat (first | exact Drawn0.refl _ | apply Drawn0.step)⟩
     · rw [if_neg c4] at H; exact absurd H (by simp)
    · rw [if_neg c3] at H; exact absurd H (by simp)
   ·
    rw [if_neg c2] at H; have c2b0 := decide_eq_false c2; clear c2; obtain rfl := Option.some.inj H
    go_wp2
    go_ret
    exact ⟨by first | rfl | (simp; done) | (simp [*]; done), by repeat (first | exact Drawn0.refl _ | apply Drawn0.step)⟩



/-! ### terrierref02_Seal: function 20 -/
def terrierref02_Seal.f (k : Nat) (l0 : List Int) : Option (List Int) := (terrierref02_Sum.f k l0).bind fun t342 => ((terrierref01_Put.f k (IntKind.u64.wrap (t342)) 4).bind fun t343 => (if t343.length + l0.length < 140737488355328 then (some (t343 ++ l0)) else (none)))
theorem terrierref02_Seal.mono : ∀ a0 k, LeO (terrierref02_Seal.f k a0) (terrierref02_Seal.f (k + 1) a0) := by
 intro a0 k
 unfold terrierref02_Seal.f
 repeat' first
   | (with_reducible exact terrierref01_Put.mono _ _ _)
   | (with_reducible exact terrierref02_Sum.mono _ _)
   | (with_reducible exact LeO.refl _)
   | (with_reducible exact LeO.none _)
   | (with_reducible refine LeO.ite ?_ ?_)
   | (with_reducible refine LeO.bind ?_ (fun _ => ?_))
   | exact terrierref01_Put.mono _ _ _
   | exact terrierref02_Sum.mono _ _
   | exact LeO.none _
   | refine LeO.ite ?_ ?_
   | refine LeO.bind ?_ (fun _ => ?_)
set_option maxHeartbeats 8000000 in
set_option maxRecDepth 100000 in
theorem terrierref02_Seal.calls (k : Nat) (A0 : Option Addr) (c0 : Nat) (l0 : List Int) (r : List Int) (w : World) (hr0 : Kd.C (Kd.int .u8) w A0 l0.length l0) (hc0 : l0.length ≤ c0) (h : terrierref02_Seal.f k l0 = some r) :
  Calls Try.prog 20 #[.slice A0 l0.length c0] w fun e w' => ∃ v0_ : Value, e = .returned (v0_) ∧ Kd.R (Kd.int .u8) 5 w' w.heap.size (fun _ => True) v0_ r ∧ Below w.heap.size w w' := by
 have HR0 := Aside0.mk hr0; have HC0 := Aside0.mk hc0; clear hr0 hc0; have HB := Ext.a (Below.refl w.heap.size w); have H := h; unfold terrierref02_Seal.f at H; clear h; replace H := Option.bind_eq_some_iff.mp H; obtain ⟨t342, A20, H⟩ := H; (try dsimp only at H); have A2 := Aside0.mk A20; clear A20; replace H := Option.bind_eq_some_iff.mp H; obtain ⟨t343, A30, H⟩ := H; (try dsimp only at H); have A3 := Aside0.mk A30; clear A30
 by_cases c4 : t343.length + l0.length < 140737488355328
 ·
  rw [if_pos c4] at H; have LMc4 := Aside0.mk c4; clear c4; obtain ⟨y346, hy346⟩ : ∃ y_ : List Int, y_ = (t343 ++ l0) := ⟨_, rfl⟩
  replace H : (some y346) = some r := by first | (rw [hy346]; with_reducible exact H) | (have H2_ := (Option.bind_some _ _).symm.trans H; rw [hy346]; with_reducible exact H2_) | (have H2_ := (Option.bind_some _ _).symm.trans H; with_reducible exact H2_) | with_reducible exact H | (rw [hy346]; exact H) | exact H
  have Ny346 := Aside0.mk hy346; clear hy346; obtain rfl := Option.some.inj H
  go_enter Try.func20, Try.ntmps20
  go_wp2_with (first | ((with_reducible refine gate_callee (f := 35) rfl ?_); refine Ext.gs (some 4) rfl rfl Try.func35 #[.slice A0 l0.length c0] rfl ?_; (with_reducible refine (terrierref02_Sum.calls k _ _ l0 t342 _ ?side1 ?side2 A2.out).mono ?_); (case side1 => repeat (first | exact HR0.out | exact HR0.out | (with_reducible refine Kd.C_alloc ?_ _) | (with_reducible refine Kd.C_drewN ?_ _) | (with_reducible refine Kd.C_drew ?_))); (case side2 => exact HC0.out); rintro e w' ⟨rfl, ⟨nd, rfl⟩⟩; refine ⟨_, rfl, ?_⟩) | ((with_reducible refine gate_callee (f := 32) rfl ?_); refine Ext.gs (some 6) rfl rfl Try.func32 #[.int .u64 (IntKind.u64.wrap (t342)), .int .i64 4] rfl ?_; (with_reducible refine (terrierref01_Put.calls k (IntKind.u64.wrap (t342)) 4 t343 _ A3.out).mono ?_); rintro e w5 ⟨v344, rfl, ho0, hb⟩; refine ⟨_, rfl, ?_⟩; have HO345 := Ext.a (Kd.R_lower ho0 (below_size (Ext.nB HB.out))); replace HB := Ext.a (below_step (Ext.nB HB.out) hb); (try clear hb ho0)) | ((with_reducible refine gate_builtin (b := .append) (xs := #[.tmp 6, .tmp 7]) rfl ?_); at_builtin; refine Kd.R_append_rows (Kd.int .u8) (w0 := w) w.heap.size rfl (.tmp 6) (.tmp 7) 25 5 (.int .u8 0) 1 rfl Try.underlying25 info5 rfl (by decide) (by omega) v344 t343 l0 _ _ _ (fun _ => True) (fun _ => False) rfl rfl ?aO ?aR (fun _ _ h => h) (fun _ h => h.elim) ?aF ?aB ?aS ?aL ?_; (case aR => first | exact Ext.kC HR0.out HB.out | exact Ext.nC HR0.out); (case aB => exact (Ext.nB HB.out)); (case aF => exact (fun _ _ => trivial)); (case aO => exact (Ext.nR HO345.out)); (case aS => exact (below_size (Ext.nB HB.out))); (case aL => have := LMc4.out; omega); intro v347 w6 ho hb hg hat; rw [← Ny346.out] at ho; replace HB := Ext.a (hb); have HO348 := Ext.a (ho); clear HO345; clear ho hb hg hat))
  go_ret
  exact ⟨_, by first | rfl | (simp [errW_none, errW_some] <;> rfl) | (simp [*, errW_none, errW_some] <;> rfl), by exact Ext.nR HO348.out, by exact Ext.nB HB.out⟩
 · rw [if_neg c4] at H; exact absurd H (by simp)

end Go.Proofs.Ytandeendeoempaa.PC
