-- Written by wip/printx.py, a program of this work over the kit's print, for this claim.
import Derived.Test.YtandeendeoempaaPCx0
import Derived.Test.YtandeendeoempaaPCx5
namespace Go.Proofs.Ytandeendeoempaa.PC
open Go.RowKit Go.Proofs.YtandeendeoempaaW.PrintWords Go.Proofs.YtandeendeoempaaW.PrintLast Go.Proofs.YtandeendeoempaaW.PrintMore
attribute [local go_sem] max2_int min2_int max_two min_two max_three min_three max_four min_four   -- for this text's walks alone
attribute [local go_sem] Ext.pick_u8 Ext.pick_u32 Ext.pick_u64
set_option linter.unusedVariables false
set_option linter.unusedSimpArgs false



/-! ### sum_Sum: function 34 -/
mutual
def sum_Sum.l0 : Nat → Int → List (List Int) → Int → Int → Option (Int)
 | 0, _, _, _, _ => none
 | k + 1, x3, x8, x9, x10 => if x10 < x9 then (if 0 ≤ x10 then (if x10 < (x8.length : Int) then (sum_Sum.l1 k x3 x8 x9 x10 (rd_L1 x8 x10) ((rd_L1 x8 x10).length : Int) 0) else (none)) else (none)) else (some (Go.bits .xor .u32 4294967295 x3))
def sum_Sum.l1 : Nat → Int → List (List Int) → Int → Int → List Int → Int → Int → Option (Int)
 | 0, _, _, _, _, _, _, _ => none
 | k + 1, x3, x8, x9, x10, x14, x15, x16 => if x16 < x15 then (if 0 ≤ x16 then (if x16 < (x14.length : Int) then ((sum_half.f (Go.bits .xor .u32 x3 ((rd x14 x16) % 4294967296))).bind fun t140 => ((sum_half.f t140).bind fun t141 => (sum_Sum.l1 k t141 x8 x9 x10 x14 x15 (wrap64 (x16 + 1))))) else (none)) else (none)) else (sum_Sum.l0 k x3 x8 x9 (wrap64 (x10 + 1)))
end
def sum_Sum.f (k : Nat) (l0 : List (List Int)) : Option (Int) := sum_Sum.l0 k 4294967295 l0 (l0.length : Int) 0
theorem sum_Sum.mono_l : ∀ k, (∀ y0 y1 y2 y3, LeO (sum_Sum.l0 k y0 y1 y2 y3) (sum_Sum.l0 (k + 1) y0 y1 y2 y3)) ∧ (∀ y0 y1 y2 y3 y4 y5 y6, LeO (sum_Sum.l1 k y0 y1 y2 y3 y4 y5 y6) (sum_Sum.l1 (k + 1) y0 y1 y2 y3 y4 y5 y6))
 | 0 => ⟨fun _ _ _ _ r h => by simp [sum_Sum.l0] at h, fun _ _ _ _ _ _ _ r h => by simp [sum_Sum.l1] at h⟩
 | k + 1 => by
  obtain ⟨ih0, ih1⟩ := sum_Sum.mono_l k; refine ⟨?_, ?_⟩
  ·
   intro y0 y1 y2 y3
   unfold sum_Sum.l0
   repeat' first
   | (with_reducible exact ih0 _ _ _ _)
   | (with_reducible exact ih1 _ _ _ _ _ _ _)
   | (with_reducible exact LeO.refl _)
   | (with_reducible exact LeO.none _)
   | (with_reducible refine LeO.ite ?_ ?_)
   | (with_reducible refine LeO.bind ?_ (fun _ => ?_))
   | exact ih0 _ _ _ _
   | exact ih1 _ _ _ _ _ _ _
   | exact LeO.none _
   | refine LeO.ite ?_ ?_
   | refine LeO.bind ?_ (fun _ => ?_)
  ·
   intro y0 y1 y2 y3 y4 y5 y6
   unfold sum_Sum.l1
   repeat' first
   | (with_reducible exact ih0 _ _ _ _)
   | (with_reducible exact ih1 _ _ _ _ _ _ _)
   | (with_reducible exact LeO.refl _)
   | (with_reducible exact LeO.none _)
   | (with_reducible refine LeO.ite ?_ ?_)
   | (with_reducible refine LeO.bind ?_ (fun _ => ?_))
   | exact ih0 _ _ _ _
   | exact ih1 _ _ _ _ _ _ _
   | exact LeO.none _
   | refine LeO.ite ?_ ?_
   | refine LeO.bind ?_ (fun _ => ?_)
theorem sum_Sum.mono : ∀ a0 k, LeO (sum_Sum.f k a0) (sum_Sum.f (k + 1) a0) := by
 intro a0 k
 obtain ⟨ih0, ih1⟩ := sum_Sum.mono_l k; unfold sum_Sum.f
 repeat' first
   | (with_reducible exact ih0 _ _ _ _)
   | (with_reducible exact ih1 _ _ _ _ _ _ _)
   | (with_reducible exact LeO.refl _)
   | (with_reducible exact LeO.none _)
   | (with_reducible refine LeO.ite ?_ ?_)
   | (with_reducible refine LeO.bind ?_ (fun _ => ?_))
   | exact ih0 _ _ _ _
   | exact ih1 _ _ _ _ _ _ _
   | exact LeO.none _
   | refine LeO.ite ?_ ?_
   | refine LeO.bind ?_ (fun _ => ?_)
set_option maxHeartbeats 8000000 in
set_option maxRecDepth 100000 in
theorem sum_Sum.calls (k : Nat) (A0 : Option Addr) (c0 : Nat) (l0 : List (List Int)) (r : Int) (w : World) (hr0 : Kd.C (Kd.slice 5 (Kd.int .u8)) w A0 l0.length l0) (hc0 : l0.length ≤ c0) (h : sum_Sum.f k l0 = some r) :
  Calls Try.prog 34 #[.slice A0 l0.length c0] w fun e w' => e = .returned (.int .u32 r) ∧ Drawn0 w w' := by
 have HR0 := Aside0.mk hr0; have HC0 := Aside0.mk hc0; clear hr0 hc0; have H := h; unfold sum_Sum.f at H; clear h; have H' := Aside0.mk H; clear H
 go_enter Try.func34, Try.ntmps34
 go_wp2
 go_loopg [3, 10] k (fun kq v3 v10 w' => ∃ (x3_1 : Int) (x10_1 : Int), v3 = .int .u32 x3_1 ∧ v10 = .int .i64 x10_1 ∧ Aside0 (sum_Sum.l0 kq x3_1 l0 (l0.length : Int) x10_1 = some r) ∧ Aside0 (kq ≤ k) ∧ Drawn0 w w')
 case atStart => exact ⟨(4294967295), (0), (by first | rfl | (simp; done) | (simp [*]; done)), (by first | rfl | (simp; done) | (simp [*]; done)), H', ⟨Nat.le_refl _⟩, by repeat (first | exact Drawn0.refl _ | apply Drawn0.step)⟩
 case round =>
  clear H'; obtain ⟨x3_1, x10_1, rfl, rfl, HA, HK1, ⟨m1, rfl⟩⟩ := hrel; cases gk with
  | zero => exact absurd HA.out (by simp [sum_Sum.l0])
  | succ k1 =>
   have H := HA.out; clear HA; simp only [sum_Sum.l0] at H
   by_cases c2 : x10_1 < (l0.length : Int)
   ·
    rw [if_pos c2] at H; have c2b0 := decide_eq_true c2; clear c2
    by_cases c3 : 0 ≤ x10_1
    ·
     rw [if_pos c3] at H; have c3b0 := decide_eq_true c3; clear c3
     by_cases c4 : x10_1 < (l0.length : Int)
     ·
      rw [if_pos c4] at H; have c4b0 := decide_eq_true c4; clear c4; have H' := Aside0.mk H; clear H; have p138 : 0 ≤ (x10_1 : Int) := of_decide_eq_true (by first | (with_reducible assumption) | assumption); have q138 : x10_1 < (l0.length : Int) := of_decide_eq_true (by first | (with_reducible assumption) | assumption); obtain ⟨ad138, A138_0, c138_0, e138, hx138_0, hl138_0, hi138_0⟩ := at_L1 HR0.out x10_1 p138 q138; cases e138; have HR138_0 := Aside0.mk hi138_0; have HC138_0 := Aside0.mk hl138_0; clear hi138_0 hl138_0; replace p138 := eq_true p138; replace q138 := eq_true q138
      go_wp2
      go_loopg [3, 16] k1 (fun kq v3 v16 w' => ∃ (x3_2 : Int) (x16_2 : Int), v3 = .int .u32 x3_2 ∧ v16 = .int .i64 x16_2 ∧ Aside0 (sum_Sum.l1 kq x3_2 l0 (l0.length : Int) x10_1 (rd_L1 l0 x10_1) ((rd_L1 l0 x10_1).length : Int) x16_2 = some r) ∧ Aside0 (kq ≤ k1) ∧ Drawn0 w w')
      case atStart => exact ⟨(x3_1), (0), (by first | rfl | (simp; done) | (simp [*]; done)), (by first | rfl | (simp; done) | (simp [*]; done)), H', ⟨Nat.le_refl _⟩, by repeat (first | exact Drawn0.refl _ | apply Drawn0.step)⟩
      case round =>
       clear H'; (try clear c1 p1 q1 hx1 c2b0 p2 c3b0 c4b0 hx138_0 p138 q138); obtain ⟨x3_2, x16_2, rfl, rfl, HA, HK2, ⟨m2, rfl⟩⟩ := hrel; cases gk with
       | zero => exact absurd HA.out (by simp [sum_Sum.l1])
       | succ k2 =>
        have H := HA.out; clear HA; simp only [sum_Sum.l1] at H
        by_cases c5 : x16_2 < ((rd_L1 l0 x10_1).length : Int)
        ·
         rw [if_pos c5] at H; have c5b0 := decide_eq_true c5; clear c5
         by_cases c6 : 0 ≤ x16_2
         ·
          rw [if_pos c6] at H; have c6b0 := decide_eq_true c6; clear c6
          by_cases c7 : x16_2 < ((rd_L1 l0 x10_1).length : Int)
          ·
           rw [if_pos c7] at H; have c7b0 := decide_eq_true c7; clear c7; replace H := Option.bind_eq_some_iff.mp H; obtain ⟨t140, A80, H⟩ := H; (try dsimp only at H); have A8 := Aside0.mk A80; clear A80; replace H := Option.bind_eq_some_iff.mp H; obtain ⟨t141, A90, H⟩ := H; (try dsimp only at H); have A9 := Aside0.mk A90; clear A90; have H' := Aside0.mk H; clear H; have p139 : 0 ≤ (x16_2 : Int) := of_decide_eq_true (by first | (with_reducible assumption) | assumption); have q139 : x16_2 < ((rd_L1 l0 x10_1).length : Int) := of_decide_eq_true (by first | (with_reducible assumption) | assumption); obtain ⟨ad139, e139, hx139_0⟩ := Kd.at_int HR138_0.out x16_2 p139 q139; cases e139; replace p139 := eq_true p139; replace q139 := eq_true q139
           go_wp2_with (first | ((with_reducible refine gate_callee (f := 47) rfl ?_); refine Ext.gs (some 24) rfl rfl Try.func47 #[.int .u32 (Go.bits .xor .u32 x3_2 ((rd (rd_L1 l0 x10_1) x16_2) % 4294967296))] rfl ?_; (with_reducible refine (sum_half.calls (Go.bits .xor .u32 x3_2 ((rd (rd_L1 l0 x10_1) x16_2) % 4294967296)) t140 _ A8.out).mono ?_); rintro e w' ⟨rfl, ⟨nd, rfl⟩⟩; refine ⟨_, rfl, ?_⟩) | ((with_reducible refine gate_callee (f := 47) rfl ?_); refine Ext.gs (some 25) rfl rfl Try.func47 #[.int .u32 t140] rfl ?_; (with_reducible refine (sum_half.calls t140 t141 _ A9.out).mono ?_); rintro e w' ⟨rfl, ⟨nd, rfl⟩⟩; refine ⟨_, rfl, ?_⟩))
           go_roundg k2
           case measure => have := HK1.out; have := HK2.out; omega
           case rel => exact ⟨(t141), (wrap64 (x16_2 + 1)), (by first | rfl | (simp; done) | (simp [*]; done)), (by first | rfl | (simp; done) | (simp [*]; done)), H', ⟨by have := HK1.out; have := HK2.out; omega⟩, by repeat (first | exact Drawn0.refl _ | apply Drawn0.step)⟩
          · rw [if_neg c7] at H; exact absurd H (by simp)
         · rw [if_neg c6] at H; exact absurd H (by simp)
        ·
         rw [if_neg c5] at H; have c5b0 := decide_eq_false c5; clear c5; have H' := Aside0.mk H; clear H
         go_wp2
         go_roundg k2
         case measure => have := HK1.out; have := HK2.out; omega
         case rel => exact ⟨(x3_2), (wrap64 (x10_1 + 1)), (by first | rfl | (simp; done) | (simp [*]; done)), (by first | rfl | (simp; done) | (simp [*]; done)), H', ⟨by have := HK1.out; have := HK2.out; omega⟩, by repeat (first | exact Drawn0.refl _ | apply Drawn0.step)⟩
     · rw [if_neg c4] at H; exact absurd H (by simp)
    · rw [if_neg c3] at H; exact absurd H (by simp)
   ·
    rw [if_neg c2] at H; have c2b0 := decide_eq_false c2; clear c2; obtain rfl := Option.some.inj H
    go_wp2
    go_ret
    exact ⟨by first | rfl | (simp; done) | (simp [*]; done), by repeat (first | exact Drawn0.refl _ | apply Drawn0.step)⟩


@[reducible] def ok26_0 (w0 : World)  : Nat → Prop := fun k_ => (w0.heap.size ≤ k_)
@[reducible] def ok26_1 (p0 : Nat → Prop) (w1 : World)  : Nat → Prop := fun k_ => (p0 k_ ∨ w1.heap.size ≤ k_)
@[reducible] def ok26_2 (p0 : Nat → Prop) (w1 : World) (v0 : Value) : Nat → Prop := fun k_ => (p0 k_ ∨ w1.heap.size ≤ k_) ∧ some k_ ≠ v0.ownBlock
/-! ### sum_Seal: function 26 -/
def sum_Seal.f (k : Nat) (l0 : List Int) : Option (List Int) := (sum_Sum.f k (([l0] : List (List Int)))).bind fun t145 => ((octets_Put.f k (IntKind.u64.wrap (t145)) 4).bind fun bt146 => (if bt146.1.length + l0.length < 140737488355328 then (some (bt146.1 ++ l0)) else (none)))
theorem sum_Seal.mono : ∀ a0 k, LeO (sum_Seal.f k a0) (sum_Seal.f (k + 1) a0) := by
 intro a0 k
 unfold sum_Seal.f
 repeat' first
   | (with_reducible exact octets_Put.mono _ _ _)
   | (with_reducible exact sum_Sum.mono _ _)
   | (with_reducible exact LeO.refl _)
   | (with_reducible exact LeO.none _)
   | (with_reducible refine LeO.ite ?_ ?_)
   | (with_reducible refine LeO.bind ?_ (fun _ => ?_))
   | exact octets_Put.mono _ _ _
   | exact sum_Sum.mono _ _
   | exact LeO.none _
   | refine LeO.ite ?_ ?_
   | refine LeO.bind ?_ (fun _ => ?_)
set_option maxHeartbeats 8000000 in
set_option maxRecDepth 100000 in
theorem sum_Seal.calls (k : Nat) (P0_ : Nat → Prop) (A0 : Option Addr) (c0 : Nat) (l0 : List Int) (r : List Int) (w : World) (hs0 : Kd.V (Kd.int .u8) 5 w w.heap.size (fun k_ => P0_ k_) (.slice A0 l0.length c0) l0) (h : sum_Seal.f k l0 = some r) :
  Calls Try.prog 26 #[.slice A0 l0.length c0] w fun e w' => ∃ v0_ : Value, e = .returned (v0_) ∧ Kd.R (Kd.int .u8) 5 w' w.heap.size (ok26_0 w) v0_ r ∧ Below w.heap.size w w' := by
 have HO0 := Ext.a (show Kd.V (Kd.int .u8) 5 w w.heap.size (ok26_1 P0_ w) (.slice A0 l0.length c0) l0 from Kd.V_mono hs0 (fun k_ hk => .inl hk)); have HB := Ext.a (Below.refl w.heap.size w); have H := h; unfold sum_Seal.f at H; clear h; obtain ⟨y142, hy142⟩ : ∃ y_ : List (List Int), y_ = (([l0] : List (List Int))) := ⟨_, rfl⟩
 replace H : ((sum_Sum.f k y142).bind fun t145 => ((octets_Put.f k (IntKind.u64.wrap (t145)) 4).bind fun bt146 => (if bt146.1.length + l0.length < 140737488355328 then (some (bt146.1 ++ l0)) else (none)))) = some r := by first | (rw [hy142]; with_reducible exact H) | (have H2_ := (Option.bind_some _ _).symm.trans H; rw [hy142]; with_reducible exact H2_) | (have H2_ := (Option.bind_some _ _).symm.trans H; with_reducible exact H2_) | with_reducible exact H | (rw [hy142]; exact H) | exact H
 have Ny142 := Aside0.mk hy142; clear hy142; replace H := Option.bind_eq_some_iff.mp H; obtain ⟨t145, A20, H⟩ := H; (try dsimp only at H); have A2 := Aside0.mk A20; clear A20; replace H := Option.bind_eq_some_iff.mp H; obtain ⟨⟨t146, t147⟩, A30, H⟩ := H; (try dsimp only at H); have A3 := Aside0.mk A30; clear A30
 by_cases c4 : t146.length + l0.length < 140737488355328
 ·
  rw [if_pos c4] at H; have LMc4 := Aside0.mk c4; clear c4; obtain ⟨y150, hy150⟩ : ∃ y_ : List Int, y_ = (t146 ++ l0) := ⟨_, rfl⟩
  replace H : (some y150) = some r := by first | (rw [hy150]; with_reducible exact H) | (have H2_ := (Option.bind_some _ _).symm.trans H; rw [hy150]; with_reducible exact H2_) | (have H2_ := (Option.bind_some _ _).symm.trans H; with_reducible exact H2_) | with_reducible exact H | (rw [hy150]; exact H) | exact H
  have Ny150 := Aside0.mk hy150; clear hy150; obtain rfl := Option.some.inj H
  go_enter Try.func26, Try.ntmps26
  go_wp2_with (first | ((with_reducible refine gate_dst (N := 7) rfl ?_); refine Kd.N_lit (Kd.slice 5 (Kd.int .u8)) _ 25 ?hg (N' := 7) ?hd (xs := ([l0] : List (List Int))) (inner := [.slice A0 l0.length c0]) (ok := (ok26_1 P0_ w)) (okp := (ok26_1 P0_ w)) ?hr ?hp (fun _ hk => hk) ((show ∀ k_, w.heap.size ≤ k_ → (ok26_1 P0_ w) k_ from fun k_ hk => (.inr (Nat.le_trans (below_size (Ext.nB HB.out)) hk))) _ (Nat.le_refl _)) (Below.refl _ _) (Nat.le_refl _) (by simp) ?_; (case hd => rfl); (case hg => rfl); (case hr => first | (go_simp; done) | (go_simp; rfl)); (case hp => exact (Reps.one (show Kd.FK (Kd.slice 5 (Kd.int .u8)) _ _ l0 [.slice A0 l0.length c0] from (Kd.FK_slice_mk (Kd.V_reads' (Kd.V_mono (e := 0) (base := 0) (ok' := (ok26_1 P0_ w)) (HO0.out) (fun k_ hk => hk))).2.1 (Kd.V_F (e := 0) (base := 0) (Kd.V_mono (e := 0) (base := 0) (ok' := (ok26_1 P0_ w)) (HO0.out) (fun k_ hk => hk))))) (Reps.none _ _))); intro v143 w5 ho6 hb hg_ hnew_; clear hg_ hnew_; (first | rw [← Ny142.out] at ho6 | (simp only [Int.reduceToNat] at ho6; rw [← Ny142.out] at ho6)); replace HO0 := Ext.a (Kd.V_elder' (Ext.nV HO0.out) (Kd.N_base ho6) hb); have HO144 := Ext.a (Kd.N_lower ho6 (below_size (Ext.nB HB.out))); replace HB := Ext.a (below_step (Ext.nB HB.out) hb); clear hb ho6; obtain ⟨Ao7, co7, eo7⟩ := Kd.N_slice HO144.out; subst eo7) | ((with_reducible refine gate_callee (f := 34) rfl ?_); refine Ext.gs (some 8) rfl rfl Try.func34 #[.slice Ao7 y142.length co7] rfl ?_; (with_reducible refine (sum_Sum.calls k _ _ y142 t145 _ ?side1 ?side2 A2.out).mono ?_); (case side1 => exact Ext.nC (Kd.N_reads' HO144.out).2.2); (case side2 => exact (Kd.N_reads' HO144.out).2.1); rintro e w' ⟨rfl, ⟨nd, rfl⟩⟩; refine ⟨_, rfl, ?_⟩) | ((with_reducible refine gate_callee (f := 43) rfl ?_); refine Ext.gs (some 10) rfl rfl Try.func43 #[.int .u64 (IntKind.u64.wrap (t145)), .int .i64 4] rfl ?_; (with_reducible refine (octets_Put.calls k (IntKind.u64.wrap (t145)) 4 t146 t147 _ A3.out).mono ?_); rintro e w8 ⟨v148, rfl, ho0, hb⟩; refine ⟨_, rfl, ?_⟩; replace HO0 := Ext.a (Kd.V_elder' (Ext.nV HO0.out) (Kd.R_base ho0) hb); replace HO144 := Ext.a (Kd.N_elder' (Ext.nN HO144.out) (Kd.R_base ho0) hb); have HO149 := Ext.a (Kd.R_lower (Kd.R_newM (M := fun k_ => (w.heap.size ≤ k_)) ho0 (below_size (Ext.nB HB.out)) (fun k_ h_ => h_)) (below_size (Ext.nB HB.out))); replace HB := Ext.a (below_step (Ext.nB HB.out) hb); (try clear hb ho0)) | ((with_reducible refine gate_builtin (b := .append) (xs := #[.tmp 13, .tmp 14]) rfl ?_); at_builtin; refine Kd.R_append_rows (Kd.int .u8) (w0 := w) w.heap.size rfl (.tmp 13) (.tmp 14) 25 5 (.int .u8 0) 1 rfl Try.underlying25 info5 rfl (by decide) (by omega) v148 t146 l0 _ _ _ (ok26_0 w) (fun _ => False) rfl rfl ?aO ?aR (fun _ _ h => h) (fun _ h => h.elim) ?aF ?aB ?aS ?aL ?_; (case aR => exact Ext.nC (Kd.V_reads' HO0.out).2.2); (case aB => exact (Ext.nB HB.out)); (case aF => exact (fun k_ hk => (Nat.le_trans (below_size (Ext.nB HB.out)) hk))); (case aO => exact (Ext.nR (Kd.R_mono HO149.out (fun _ hk => hk.1)))); (case aS => exact (below_size (Ext.nB HB.out))); (case aL => have := LMc4.out; omega); intro v151 w9 ho hb hg hat; rw [← Ny150.out] at ho; replace HO0 := Ext.a (Kd.V_afterv (ok := (ok26_2 P0_ w (.slice Ao7 y142.length co7))) (Ext.nV HO0.out) hg hat); replace HO144 := Ext.a (Kd.N_afterv (ok := (ok26_1 P0_ w)) (Ext.nN HO144.out) hg hat); replace HB := Ext.a (hb); have HO152 := Ext.a (ho); clear HO149; clear ho hb hg hat))
  go_ret
  exact ⟨_, by first | rfl | (simp [errW_none, errW_some] <;> rfl) | (simp [*, errW_none, errW_some] <;> rfl), by exact Ext.nR HO152.out, by exact Ext.nB HB.out⟩
 · rw [if_neg c4] at H; exact absurd H (by simp)

end Go.Proofs.Ytandeendeoempaa.PC
