-- Written by wip/printx.py, a program of this work over the kit's print, for this claim.
import Derived.Test.YtfkihcdonddcoaaPRx0
import Derived.Test.YtfkihcdonddcoaaPRx10
namespace Go.Proofs.Ytfkihcdonddcoaa.PR
open Go.RowKit Go.Proofs.YtfkihcdonddcoaaW.PrintWords Go.Proofs.YtfkihcdonddcoaaW.PrintLast Go.Proofs.YtfkihcdonddcoaaW.PrintMore
attribute [local go_sem] max2_int min2_int max_two min_two max_three min_three max_four min_four   -- for this text's walks alone
attribute [local go_sem] Ext.pick_u8 Ext.pick_u32 Ext.pick_u64
set_option linter.unusedVariables false
set_option linter.unusedSimpArgs false



/-! ### terrierref02_Sum: function 26 -/
mutual
def terrierref02_Sum.l0 : Nat → Int → List Int → Int → Int → Option (Int)
 | 0, _, _, _, _ => none
 | k + 1, x3, x8, x9, x10 => if x10 < x9 then (if 0 ≤ x10 then (if x10 < (x8.length : Int) then (terrierref02_Sum.l1 k (Go.bits .xor .u32 x3 ((rd x8 x10) % 4294967296)) 0 x8 x9 x10) else (none)) else (none)) else (some (Go.bits .xor .u32 4294967295 x3))
def terrierref02_Sum.l1 : Nat → Int → Int → List Int → Int → Int → Option (Int)
 | 0, _, _, _, _, _ => none
 | k + 1, x3, x6, x8, x9, x10 => if x6 < 8 then (if (Int.tmod x3 2) = 1 then (terrierref02_Sum.l1 k (Go.bits .xor .u32 ((Int.tdiv x3 2) % 4294967296) 2197175160) (wrap64 (x6 + 1)) x8 x9 x10) else (terrierref02_Sum.l1 k ((Int.tdiv x3 2) % 4294967296) (wrap64 (x6 + 1)) x8 x9 x10)) else (terrierref02_Sum.l0 k x3 x8 x9 (wrap64 (x10 + 1)))
end
def terrierref02_Sum.f (k : Nat) (l0 : List Int) : Option (Int) := terrierref02_Sum.l0 k 4294967295 l0 (l0.length : Int) 0
theorem terrierref02_Sum.mono_l : ∀ k, (∀ y0 y1 y2 y3, LeO (terrierref02_Sum.l0 k y0 y1 y2 y3) (terrierref02_Sum.l0 (k + 1) y0 y1 y2 y3)) ∧ (∀ y0 y1 y2 y3 y4, LeO (terrierref02_Sum.l1 k y0 y1 y2 y3 y4) (terrierref02_Sum.l1 (k + 1) y0 y1 y2 y3 y4))
 | 0 => ⟨fun _ _ _ _ r h => by simp [terrierref02_Sum.l0] at h, fun _ _ _ _ _ r h => by simp [terrierref02_Sum.l1] at h⟩
 | k + 1 => by
  obtain ⟨ih0, ih1⟩ := terrierref02_Sum.mono_l k
  refine ⟨?_, ?_⟩
  ·
   intro y0 y1 y2 y3
   unfold terrierref02_Sum.l0
   repeat' first
   | (with_reducible exact ih0 _ _ _ _)
   | (with_reducible exact ih1 _ _ _ _ _)
   | (with_reducible exact LeO.refl _)
   | (with_reducible exact LeO.none _)
   | (with_reducible refine LeO.ite ?_ ?_)
   | (with_reducible refine LeO.bind ?_ (fun _ => ?_))
   | exact ih0 _ _ _ _
   | exact ih1 _ _ _ _ _
   | exact LeO.none _
   | refine LeO.ite ?_ ?_
   | refine LeO.bind ?_ (fun _ => ?_)
  ·
   intro y0 y1 y2 y3 y4
   unfold terrierref02_Sum.l1
   repeat' first
   | (with_reducible exact ih0 _ _ _ _)
   | (with_reducible exact ih1 _ _ _ _ _)
   | (with_reducible exact LeO.refl _)
   | (with_reducible exact LeO.none _)
   | (with_reducible refine LeO.ite ?_ ?_)
   | (with_reducible refine LeO.bind ?_ (fun _ => ?_))
   | exact ih0 _ _ _ _
   | exact ih1 _ _ _ _ _
   | exact LeO.none _
   | refine LeO.ite ?_ ?_
   | refine LeO.bind ?_ (fun _ => ?_)
theorem terrierref02_Sum.mono : ∀ a0 k, LeO (terrierref02_Sum.f k a0) (terrierref02_Sum.f (k + 1) a0) := by
 intro a0 k
 obtain ⟨ih0, ih1⟩ := terrierref02_Sum.mono_l k
 unfold terrierref02_Sum.f
 repeat' first
   | (with_reducible exact ih0 _ _ _ _)
   | (with_reducible exact ih1 _ _ _ _ _)
   | (with_reducible exact LeO.refl _)
   | (with_reducible exact LeO.none _)
   | (with_reducible refine LeO.ite ?_ ?_)
   | (with_reducible refine LeO.bind ?_ (fun _ => ?_))
   | exact ih0 _ _ _ _
   | exact ih1 _ _ _ _ _
   | exact LeO.none _
   | refine LeO.ite ?_ ?_
   | refine LeO.bind ?_ (fun _ => ?_)
set_option maxHeartbeats 8000000 in
set_option maxRecDepth 100000 in
theorem terrierref02_Sum.calls (k : Nat) (A0 : Option Addr) (c0 : Nat) (l0 : List Int) (r : Int) (w : World) (hr0 : Kd.C (Kd.int .u8) w A0 l0.length l0) (hc0 : l0.length ≤ c0) (h : terrierref02_Sum.f k l0 = some r) :
  Calls Try.prog 26 #[.slice A0 l0.length c0] w fun e w' => e = .returned (.int .u32 r) ∧ Drawn0 w w' := by
 have HR0 := Aside0.mk hr0
 have HC0 := Aside0.mk hc0
 clear hr0 hc0
 have H : (terrierref02_Sum.l0 k 4294967295 l0 (l0.length : Int) 0) = some r := h
 clear h
 have H' := Aside0.mk H
 clear H
 go_enter Try.func26, Try.ntmps26
 go_wp2
 go_loopg [3, 10] k (fun kq v3 v10 w' => ∃ (x3_1 : Int) (x10_1 : Int), v3 = .int .u32 x3_1 ∧ v10 = .int .i64 x10_1 ∧ Aside0 (terrierref02_Sum.l0 kq x3_1 l0 (l0.length : Int) x10_1 = some r) ∧ Aside0 (kq ≤ k) ∧ Drawn0 w w')
 case atStart => exact ⟨(4294967295), (0), (by first | rfl | (simp; done) | (simp [*]; done)), (by first | rfl | (simp; done) | (simp [*]; done)), H', ⟨Nat.le_refl _⟩, by repeat (first | exact Drawn0.refl _ | apply Drawn0.step)⟩
 case round =>
  clear H'
  obtain ⟨x3_1, x10_1, rfl, rfl, HA, HK1, ⟨m1, rfl⟩⟩ := hrel
  cases gk with
  | zero => exact absurd HA.out (by simp [terrierref02_Sum.l0])
  | succ k1 =>
   have H := HA.out
   clear HA
   simp only [terrierref02_Sum.l0] at H
   by_cases c2 : x10_1 < (l0.length : Int)
   ·
    rw [if_pos c2] at H
    have c2b0 : decide (x10_1 < (l0.length : Int)) = true := decide_eq_true c2
    clear c2
    by_cases c3 : 0 ≤ x10_1
    ·
     rw [if_pos c3] at H
     have c3b0 : decide (0 ≤ x10_1) = true := decide_eq_true c3
     clear c3
     by_cases c4 : x10_1 < (l0.length : Int)
     ·
      rw [if_pos c4] at H
      have c4b0 : decide (x10_1 < (l0.length : Int)) = true := decide_eq_true c4
      clear c4
      have H' := Aside0.mk H
      clear H
      have p227 : 0 ≤ (x10_1 : Int) := of_decide_eq_true (by first | (with_reducible assumption) | assumption)
      have q227 : x10_1 < (l0.length : Int) := of_decide_eq_true (by first | (with_reducible assumption) | assumption)
      obtain ⟨ad227, e227, hx227_0⟩ := Kd.at_int HR0.out x10_1 p227 q227
      cases e227
      replace p227 := eq_true p227
      replace q227 := eq_true q227
      go_wp2
      go_loopg [3, 6] k1 (fun kq v3 v6 w' => ∃ (x3_2 : Int) (x6_2 : Int), v3 = .int .u32 x3_2 ∧ v6 = .int .i64 x6_2 ∧ Aside0 (terrierref02_Sum.l1 kq x3_2 x6_2 l0 (l0.length : Int) x10_1 = some r) ∧ Aside0 (kq ≤ k1) ∧ Drawn0 w w')
      case atStart => exact ⟨(Go.bits .xor .u32 x3_1 ((rd l0 x10_1) % 4294967296)), (0), (by first | rfl | (simp; done) | (simp [*]; done)), (by first | rfl | (simp; done) | (simp [*]; done)), H', ⟨Nat.le_refl _⟩, by repeat (first | exact Drawn0.refl _ | apply Drawn0.step)⟩
      case round =>
       clear H'
       try clear c2
       try clear c2b0
       try clear p2
       try clear q2
       try clear hx2
       try clear c3
       try clear c3b0
       try clear c4
       try clear c4b0
       try clear hx227_0
       try clear p227
       try clear q227
       obtain ⟨x3_2, x6_2, rfl, rfl, HA, HK2, ⟨m2, rfl⟩⟩ := hrel
       cases gk with
       | zero => exact absurd HA.out (by simp [terrierref02_Sum.l1])
       | succ k2 =>
        have H := HA.out
        clear HA
        simp only [terrierref02_Sum.l1] at H
        by_cases c5 : x6_2 < 8
        ·
         rw [if_pos c5] at H
         have c5b0 : decide (x6_2 < 8) = true := decide_eq_true c5
         clear c5
         by_cases c6 : (Int.tmod x3_2 2) = 1
         ·
          rw [if_pos c6] at H
          have c6b0 : ((Int.tmod x3_2 2) == 1) = true := beq_iff_eq.mpr c6
          have c6b1 : ((Int.tmod x3_2 2) != 1) = false := bne_eq_false_iff_eq.mpr c6
          clear c6
          have H' := Aside0.mk H
          clear H
          go_wp2
          go_roundg k2
          case measure => have := HK1.out; have := HK2.out; omega
          case rel => exact ⟨(Go.bits .xor .u32 ((Int.tdiv x3_2 2) % 4294967296) 2197175160), (wrap64 (x6_2 + 1)), (by first | rfl | (simp; done) | (simp [*]; done)), (by first | rfl | (simp; done) | (simp [*]; done)), H', ⟨by have := HK1.out; have := HK2.out; omega⟩, by repeat (first | exact Drawn0.refl _ | apply Drawn0.step)⟩
         ·
          rw [if_neg c6] at H
          have c6b0 : ((Int.tmod x3_2 2) == 1) = false := beq_eq_false_iff_ne.mpr c6
          have c6b1 : ((Int.tmod x3_2 2) != 1) = true := bne_iff_ne.mpr c6
          have H' := Aside0.mk H
          clear H
          go_wp2
          go_roundg k2
          case measure => have := HK1.out; have := HK2.out; omega
          case rel => exact ⟨((Int.tdiv x3_2 2) % 4294967296), (wrap64 (x6_2 + 1)), (by first | rfl | (simp; done) | (simp [*]; done)), (by first | rfl | (simp; done) | (simp [*]; done)), H', ⟨by have := HK1.out; have := HK2.out; omega⟩, by repeat (first | exact Drawn0.refl _ | apply Drawn0.step)⟩
        ·
         rw [if_neg c5] at H
         have c5b0 : decide (x6_2 < 8) = false := decide_eq_false c5
         clear c5
         have H' := Aside0.mk H
         clear H
         go_wp2
         go_roundg k2
         case measure => have := HK1.out; have := HK2.out; omega
         case rel => exact ⟨(x3_2), (wrap64 (x10_1 + 1)), (by first | rfl | (simp; done) | (simp [*]; done)), (by first | rfl | (simp; done) | (simp [*]; done)), H', ⟨by have := HK1.out; have := HK2.out; omega⟩, by repeat (first | exact Drawn0.refl _ | apply Drawn0.step)⟩
     · rw [if_neg c4] at H; exact absurd H (by simp)
    · rw [if_neg c3] at H; exact absurd H (by simp)
   ·
    rw [if_neg c2] at H
    have c2b0 : decide (x10_1 < (l0.length : Int)) = false := decide_eq_false c2
    clear c2
    obtain rfl := Option.some.inj H
    go_wp2
    go_ret
    exact ⟨by first | rfl | (simp; done) | (simp [*]; done), by repeat (first | exact Drawn0.refl _ | apply Drawn0.step)⟩



/-! ### terrierref02_Seal: function 16 -/
def terrierref02_Seal.f (k : Nat) (l0 : List Int) : Option (List Int) := (terrierref02_Sum.f k l0).bind fun t228 => ((terrierref01_Put.f k (IntKind.u64.wrap (t228)) 4).bind fun t229 => (if t229.length + l0.length < 140737488355328 then (some (t229 ++ l0)) else (none)))
theorem terrierref02_Seal.mono : ∀ a0 k, LeO (terrierref02_Seal.f k a0) (terrierref02_Seal.f (k + 1) a0) := by
 intro a0 k
 unfold terrierref02_Seal.f
 repeat' first
   | (with_reducible exact terrierref01_Put.mono _ _ _)
   | (with_reducible exact terrierref02_Sum.mono _ _)
   | (with_reducible exact LeO.refl _)
   | (with_reducible exact LeO.none _)
   | (with_reducible refine LeO.ite ?_ ?_)
   | (with_reducible refine LeO.bind ?_ (fun _ => ?_))
   | exact terrierref01_Put.mono _ _ _
   | exact terrierref02_Sum.mono _ _
   | exact LeO.none _
   | refine LeO.ite ?_ ?_
   | refine LeO.bind ?_ (fun _ => ?_)
set_option maxHeartbeats 8000000 in
set_option maxRecDepth 100000 in
theorem terrierref02_Seal.calls (k : Nat) (A0 : Option Addr) (c0 : Nat) (l0 : List Int) (r : List Int) (w : World) (hr0 : Kd.C (Kd.int .u8) w A0 l0.length l0) (hc0 : l0.length ≤ c0) (h : terrierref02_Seal.f k l0 = some r) :
  Calls Try.prog 16 #[.slice A0 l0.length c0] w fun e w' => ∃ v0_ : Value, e = .returned (v0_) ∧ Kd.R (Kd.int .u8) 5 w' w.heap.size (fun _ => True) v0_ r ∧ Below w.heap.size w w' := by
 have HR0 := Aside0.mk hr0
 have HC0 := Aside0.mk hc0
 clear hr0 hc0
 have HB := Ext.a (Below.refl w.heap.size w)
 have H : ((terrierref02_Sum.f k l0).bind fun t228 => ((terrierref01_Put.f k (IntKind.u64.wrap (t228)) 4).bind fun t229 => (if t229.length + l0.length < 140737488355328 then (some (t229 ++ l0)) else (none)))) = some r := h
 clear h
 replace H := Option.bind_eq_some_iff.mp H
 obtain ⟨t228, A20, H⟩ := H
 replace H : ((terrierref01_Put.f k (IntKind.u64.wrap (t228)) 4).bind fun t229 => (if t229.length + l0.length < 140737488355328 then (some (t229 ++ l0)) else (none))) = some r := H
 have A2 := Aside0.mk A20
 clear A20
 replace H := Option.bind_eq_some_iff.mp H
 obtain ⟨t229, A30, H⟩ := H
 replace H : (if t229.length + l0.length < 140737488355328 then (some (t229 ++ l0)) else (none)) = some r := H
 have A3 := Aside0.mk A30
 clear A30
 by_cases c4 : t229.length + l0.length < 140737488355328
 ·
  rw [if_pos c4] at H
  have LMc4 := Aside0.mk c4
  clear c4
  obtain ⟨y232, hy232⟩ : ∃ y_ : List Int, y_ = (t229 ++ l0) := ⟨_, rfl⟩
  replace H : (some y232) = some r := by first | (rw [hy232]; with_reducible exact H) | (have H2_ := (Option.bind_some _ _).symm.trans H; rw [hy232]; with_reducible exact H2_) | (have H2_ := (Option.bind_some _ _).symm.trans H; with_reducible exact H2_) | with_reducible exact H | (rw [hy232]; exact H) | exact H
  have Ny232 := Aside0.mk hy232
  clear hy232
  obtain rfl := Option.some.inj H
  go_enter Try.func16, Try.ntmps16
  go_wp2_with (first | ((with_reducible refine gate_callee (f := 26) rfl ?_); refine goesL_ (some 4) rfl rfl Try.func26 (by kernel_rfl) rfl #[.slice A0 l0.length c0] rfl (by (try simp only [List.map_toArray, List.map_cons, List.map_nil]); first | done | rfl | (simp only [List.length_drop, List.length_take]; rfl)) ?_; (with_reducible refine (terrierref02_Sum.calls k _ _ l0 t228 _ ?side1 ?side2 A2.out).mono ?_); (case side1 => repeat (first | exact HR0.out | exact HR0.out | (with_reducible refine Kd.C_alloc ?_ _) | (with_reducible refine Kd.C_drewN ?_ _) | (with_reducible refine Kd.C_drew ?_))); (case side2 => exact HC0.out); rintro e w' ⟨rfl, ⟨nd, rfl⟩⟩; refine ⟨_, rfl, ?_⟩) | ((with_reducible refine gate_callee (f := 25) rfl ?_); refine goesL_ (some 6) rfl rfl Try.func25 (by kernel_rfl) rfl #[.int .u64 (IntKind.u64.wrap (t228)), .int .i64 4] rfl (by (try simp only [List.map_toArray, List.map_cons, List.map_nil]); first | done | rfl | (simp only [List.length_drop, List.length_take]; rfl)) ?_; (with_reducible refine (terrierref01_Put.calls k (IntKind.u64.wrap (t228)) 4 t229 _ A3.out).mono ?_); rintro e w5 ⟨v230, rfl, ho0, hb⟩; refine ⟨_, rfl, ?_⟩; have n0_ := Ext.a (Kd.R_lower ho0 (below_size (Ext.nB HB.out))); have n1_ := Ext.a (below_step (Ext.nB HB.out) hb); clear HB; have HO231 := n0_; have HB := n1_; clear n0_ n1_; (try clear hb); (try clear hb2); (try clear hk); (try clear hi); (try clear ho0)) | ((with_reducible refine gate_builtin (b := .append) (xs := #[.tmp 6, .tmp 7]) rfl ?_); at_builtin; refine Kd.R_append_rows (Kd.int .u8) (w0 := w) w.heap.size rfl (.tmp 6) (.tmp 7) 26 5 (.int .u8 0) 1 rfl Try.underlying26 info5 rfl (by decide) (by omega) v230 t229 l0 _ _ _ (fun _ => True) (fun _ => False) rfl rfl ?aO ?aR (fun _ _ h => h) (fun _ h => h.elim) ?aF ?aB ?aS ?aL ?_; (case aR => repeat (first | exact (Kd.C_below HR0.out HB.out) | exact HR0.out | (with_reducible refine Kd.C_alloc ?_ _) | (with_reducible refine Kd.C_drewN ?_ _) | (with_reducible refine Kd.C_drew ?_))); (case aB => exact (Ext.nB HB.out)); (case aF => exact (fun _ _ => trivial)); (case aO => exact (Ext.nR HO231.out)); (case aS => exact (below_size (Ext.nB HB.out))); (case aL => have := LMc4.out; omega); intro v233 w6 ho hb hg hat; rw [← Ny232.out] at ho; have n0_ := Ext.a (hb); have n1_ := Ext.a (ho); clear HB HO231; have HB := n0_; have HO234 := n1_; clear n0_ n1_; clear ho hb hg hat))
  go_ret
  exact ⟨_, by first | rfl | (simp [errW_none, errW_some] <;> rfl) | (simp [*, errW_none, errW_some] <;> rfl), by (with_reducible repeat (first | apply Kd.R_alloc | apply Kd.R_drewN | apply Kd.R_drew)); exact HO234.out, by repeat (first | (with_reducible first | exact HB.out | apply Ext.ba | apply Ext.bn | apply Ext.bd) | exact HB.out | exact .refl _ _)⟩
 · rw [if_neg c4] at H; exact absurd H (by simp)



/-! ### terrierref01_Twin: function 17 -/
def terrierref01_Twin.f (l0 : List Int) : Option (List Int) := (some (([] : List Int) : List Int)).bind fun y235 => (if y235.length + l0.length < 140737488355328 then (some (y235 ++ l0)) else (none))
set_option maxHeartbeats 8000000 in
set_option maxRecDepth 100000 in
theorem terrierref01_Twin.calls (A0 : Option Addr) (c0 : Nat) (l0 : List Int) (r : List Int) (w : World) (hr0 : Kd.C (Kd.int .u8) w A0 l0.length l0) (hc0 : l0.length ≤ c0) (h : terrierref01_Twin.f l0 = some r) :
  Calls Try.prog 17 #[.slice A0 l0.length c0] w fun e w' => ∃ v0_ : Value, e = .returned (v0_) ∧ Kd.R (Kd.int .u8) 5 w' w.heap.size (fun _ => True) v0_ r ∧ Below w.heap.size w w' := by
 have HR0 := Aside0.mk hr0
 have HC0 := Aside0.mk hc0
 clear hr0 hc0
 have HB := Ext.a (Below.refl w.heap.size w)
 have H : ((some (([] : List Int) : List Int)).bind fun y235 => (if y235.length + l0.length < 140737488355328 then (some (y235 ++ l0)) else (none))) = some r := h
 clear h
 obtain ⟨y235, hy235⟩ : ∃ y_ : List Int, y_ = (([] : List Int)) := ⟨_, rfl⟩
 replace H : (if y235.length + l0.length < 140737488355328 then (some (y235 ++ l0)) else (none)) = some r := by first | (rw [hy235]; with_reducible exact H) | (have H2_ := (Option.bind_some _ _).symm.trans H; rw [hy235]; with_reducible exact H2_) | (have H2_ := (Option.bind_some _ _).symm.trans H; with_reducible exact H2_) | with_reducible exact H | (rw [hy235]; exact H) | exact H
 have Ny235 := Aside0.mk hy235
 clear hy235
 by_cases c2 : y235.length + l0.length < 140737488355328
 ·
  rw [if_pos c2] at H
  have LMc2 := Aside0.mk c2
  clear c2
  obtain ⟨y238, hy238⟩ : ∃ y_ : List Int, y_ = (y235 ++ l0) := ⟨_, rfl⟩
  replace H : (some y238) = some r := by first | (rw [hy238]; with_reducible exact H) | (have H2_ := (Option.bind_some _ _).symm.trans H; rw [hy238]; with_reducible exact H2_) | (have H2_ := (Option.bind_some _ _).symm.trans H; with_reducible exact H2_) | with_reducible exact H | (rw [hy238]; exact H) | exact H
  have Ny238 := Aside0.mk hy238
  clear hy238
  obtain rfl := Option.some.inj H
  go_enter Try.func17, Try.ntmps17
  go_wp2_with (first | ((with_reducible refine gate_dst (N := 3) rfl ?_); refine Kd.R_lit (Kd.int .u8) _ 5 ?hg (N := 3) ?hd (xs := ([] : List Int)) (inner := []) (ok := fun _ => True) (okp := fun _ => True) ?hr ?hp (fun _ hk => hk) trivial (Below.refl _ _) (Nat.le_refl _) (by simp) ?_; (case hd => rfl); (case hg => rfl); (case hr => first | (go_simp; done) | (go_simp; rfl)); (case hp => exact (Reps.none _ _)); intro v236 w3 ho4 hb hg_ hnew_; clear hg_ hnew_; (first | rw [← Ny235.out] at ho4 | (simp only [Int.reduceToNat] at ho4; rw [← Ny235.out] at ho4)); have n0_ := Ext.a (Kd.R_lower ho4 (below_size (Ext.nB HB.out))); have n1_ := Ext.a (below_step (Ext.nB HB.out) hb); clear HB; have HO237 := n0_; have HB := n1_; clear n0_ n1_; clear hb ho4) | ((with_reducible refine gate_builtin (b := .append) (xs := #[.tmp 3, .tmp 4]) rfl ?_); at_builtin; refine Kd.R_append_rows (Kd.int .u8) (w0 := w) w.heap.size rfl (.tmp 3) (.tmp 4) 26 5 (.int .u8 0) 1 rfl Try.underlying26 info5 rfl (by decide) (by omega) v236 y235 l0 _ _ _ (fun _ => True) (fun _ => False) rfl rfl ?aO ?aR (fun _ _ h => h) (fun _ h => h.elim) ?aF ?aB ?aS ?aL ?_; (case aR => repeat (first | exact (Kd.C_below HR0.out HB.out) | exact HR0.out | (with_reducible refine Kd.C_alloc ?_ _) | (with_reducible refine Kd.C_drewN ?_ _) | (with_reducible refine Kd.C_drew ?_))); (case aB => exact (Ext.nB HB.out)); (case aF => exact (fun _ _ => trivial)); (case aO => exact (Ext.nR HO237.out)); (case aS => exact (below_size (Ext.nB HB.out))); (case aL => have := LMc2.out; omega); intro v239 w5 ho hb hg hat; rw [← Ny238.out] at ho; have n0_ := Ext.a (hb); have n1_ := Ext.a (ho); clear HB HO237; have HB := n0_; have HO240 := n1_; clear n0_ n1_; clear ho hb hg hat))
  go_ret
  exact ⟨_, by first | rfl | (simp [errW_none, errW_some] <;> rfl) | (simp [*, errW_none, errW_some] <;> rfl), by (with_reducible repeat (first | apply Kd.R_alloc | apply Kd.R_drewN | apply Kd.R_drew)); exact HO240.out, by repeat (first | (with_reducible first | exact HB.out | apply Ext.ba | apply Ext.bn | apply Ext.bd) | exact HB.out | exact .refl _ _)⟩
 · rw [if_neg c2] at H; exact absurd H (by simp)



/-! ### terrierref05_Right: function 11 -/
def terrierref05_Right.f (a0_0 : Int) (a0_1 : Int) (a0_2 : Int) (a0_3 : Int) : Option (Bool) := if a0_3 < 8 then (some false) else (if a0_3 > 1024 then (some false) else (if a0_1 = 0 then (if a0_2 = 0 then (some true) else (if a0_2 > 1 then (some (decide (a0_2 < a0_3))) else (some false))) else (if a0_1 > 1 then (if a0_1 < a0_3 then (if a0_2 = 0 then (some true) else (if a0_2 > 1 then (some (decide (a0_2 < a0_3))) else (some false))) else (some false)) else (some false))))
set_option maxHeartbeats 8000000 in
set_option maxRecDepth 100000 in
theorem terrierref05_Right.calls (a0_0 : Int) (a0_1 : Int) (a0_2 : Int) (a0_3 : Int) (r : Bool) (w : World) (h : terrierref05_Right.f a0_0 a0_1 a0_2 a0_3 = some r) :
  Calls Try.prog 11 #[.agg #[.int .u64 a0_0, .int .i64 a0_1, .int .i64 a0_2, .int .i64 a0_3]] w fun e w' => e = .returned (.bool r) ∧ Below w.heap.size w w' := by
 have hu31 := Try.underlying31
 have HB := Ext.a (Below.refl w.heap.size w)
 have H : (if a0_3 < 8 then (some false) else (if a0_3 > 1024 then (some false) else (if a0_1 = 0 then (if a0_2 = 0 then (some true) else (if a0_2 > 1 then (some (decide (a0_2 < a0_3))) else (some false))) else (if a0_1 > 1 then (if a0_1 < a0_3 then (if a0_2 = 0 then (some true) else (if a0_2 > 1 then (some (decide (a0_2 < a0_3))) else (some false))) else (some false)) else (some false))))) = some r := h
 clear h
 by_cases c2 : a0_3 < 8
 ·
  rw [if_pos c2] at H
  have c2b0 : decide (a0_3 < 8) = true := decide_eq_true c2
  clear c2
  obtain rfl := Option.some.inj H
  go_enter Try.func11, Try.ntmps11
  go_wp2_with (first | ((with_reducible refine gate_dst (N := 1) rfl ?_); refine box_event ?hg (N := 1) ?hd (cs := #[.int .u64 a0_0, .int .i64 a0_1, .int .i64 a0_2, .int .i64 a0_3]) (t := 31) ?hr ?_; (case hd => rfl); (case hg => rfl); (case hr => first | (go_simp; done) | (go_simp; rfl)); intro gb241 hg w3 hbox hb; have n0_ := Ext.a (below_step (Ext.nB HB.out) hb); have n1_ := Ext.a (hbox); have n2_ := Ext.a ((by rw [hg]; exact (below_size (Ext.nB HB.out)) : w.heap.size ≤ gb241)); have n3_ := Ext.a ((by rw [hg]; exact (below_size (Ext.nB HB.out)) : w.heap.size ≤ gb241)); clear HB; have HB := n0_; have BK241 := n1_; have GW241 := n2_; have GE241 := n3_; clear n0_ n1_ n2_ n3_; clear hb hbox hg; obtain ⟨hcz4_0, hcz4_1, hcz4_2, hcz4_3⟩ := Ext.cells4 BK241.out; obtain ⟨hfz4_0, hfz4_1, hfz4_2, hfz4_3⟩ := Ext.froz4 BK241.out))
  go_ret
  exact ⟨by first | rfl | (simp [errW_none, errW_some] <;> rfl) | (simp [*, errW_none, errW_some] <;> rfl), by repeat (first | (with_reducible first | exact HB.out | apply Ext.ba | apply Ext.bn | apply Ext.bd | refine Ext.bs ?_ GE241.out) | exact HB.out | exact .refl _ _)⟩
 ·
  rw [if_neg c2] at H
  have c2b0 : decide (a0_3 < 8) = false := decide_eq_false c2
  clear c2
  by_cases c5 : a0_3 > 1024
  ·
   rw [if_pos c5] at H
   have c5b0 : decide (1024 < a0_3) = true := decide_eq_true c5
   clear c5
   obtain rfl := Option.some.inj H
   go_enter Try.func11, Try.ntmps11
   go_wp2_with (first | ((with_reducible refine gate_dst (N := 1) rfl ?_); refine box_event ?hg (N := 1) ?hd (cs := #[.int .u64 a0_0, .int .i64 a0_1, .int .i64 a0_2, .int .i64 a0_3]) (t := 31) ?hr ?_; (case hd => rfl); (case hg => rfl); (case hr => first | (go_simp; done) | (go_simp; rfl)); intro gb241 hg w6 hbox hb; have n0_ := Ext.a (below_step (Ext.nB HB.out) hb); have n1_ := Ext.a (hbox); have n2_ := Ext.a ((by rw [hg]; exact (below_size (Ext.nB HB.out)) : w.heap.size ≤ gb241)); have n3_ := Ext.a ((by rw [hg]; exact (below_size (Ext.nB HB.out)) : w.heap.size ≤ gb241)); clear HB; have HB := n0_; have BK241 := n1_; have GW241 := n2_; have GE241 := n3_; clear n0_ n1_ n2_ n3_; clear hb hbox hg; obtain ⟨hcz7_0, hcz7_1, hcz7_2, hcz7_3⟩ := Ext.cells4 BK241.out; obtain ⟨hfz7_0, hfz7_1, hfz7_2, hfz7_3⟩ := Ext.froz4 BK241.out))
   go_ret
   exact ⟨by first | rfl | (simp [errW_none, errW_some] <;> rfl) | (simp [*, errW_none, errW_some] <;> rfl), by repeat (first | (with_reducible first | exact HB.out | apply Ext.ba | apply Ext.bn | apply Ext.bd | refine Ext.bs ?_ GE241.out) | exact HB.out | exact .refl _ _)⟩
  ·
   rw [if_neg c5] at H
   have c5b0 : decide (1024 < a0_3) = false := decide_eq_false c5
   clear c5
   by_cases c8 : a0_1 = 0
   ·
    rw [if_pos c8] at H
    have c8b0 : (a0_1 == 0) = true := beq_iff_eq.mpr c8
    have c8b1 : (a0_1 != 0) = false := bne_eq_false_iff_eq.mpr c8
    clear c8
    by_cases c9 : a0_2 = 0
    ·
     rw [if_pos c9] at H
     have c9b0 : (a0_2 == 0) = true := beq_iff_eq.mpr c9
     have c9b1 : (a0_2 != 0) = false := bne_eq_false_iff_eq.mpr c9
     clear c9
     obtain rfl := Option.some.inj H
     go_enter Try.func11, Try.ntmps11
     go_wp2_with (first | ((with_reducible refine gate_dst (N := 1) rfl ?_); refine box_event ?hg (N := 1) ?hd (cs := #[.int .u64 a0_0, .int .i64 a0_1, .int .i64 a0_2, .int .i64 a0_3]) (t := 31) ?hr ?_; (case hd => rfl); (case hg => rfl); (case hr => first | (go_simp; done) | (go_simp; rfl)); intro gb241 hg w10 hbox hb; have n0_ := Ext.a (below_step (Ext.nB HB.out) hb); have n1_ := Ext.a (hbox); have n2_ := Ext.a ((by rw [hg]; exact (below_size (Ext.nB HB.out)) : w.heap.size ≤ gb241)); have n3_ := Ext.a ((by rw [hg]; exact (below_size (Ext.nB HB.out)) : w.heap.size ≤ gb241)); clear HB; have HB := n0_; have BK241 := n1_; have GW241 := n2_; have GE241 := n3_; clear n0_ n1_ n2_ n3_; clear hb hbox hg; obtain ⟨hcz11_0, hcz11_1, hcz11_2, hcz11_3⟩ := Ext.cells4 BK241.out; obtain ⟨hfz11_0, hfz11_1, hfz11_2, hfz11_3⟩ := Ext.froz4 BK241.out))
     go_ret
     exact ⟨by first | rfl | (simp [errW_none, errW_some] <;> rfl) | (simp [*, errW_none, errW_some] <;> rfl), by repeat (first | (with_reducible first | exact HB.out | apply Ext.ba | apply Ext.bn | apply Ext.bd | refine Ext.bs ?_ GE241.out) | exact HB.out | exact .refl _ _)⟩
    ·
     rw [if_neg c9] at H
     have c9b0 : (a0_2 == 0) = false := beq_eq_false_iff_ne.mpr c9
     have c9b1 : (a0_2 != 0) = true := bne_iff_ne.mpr c9
     by_cases c12 : a0_2 > 1
     ·
      rw [if_pos c12] at H
      have c12b0 : decide (1 < a0_2) = true := decide_eq_true c12
      clear c12
      obtain rfl := Option.some.inj H
      go_enter Try.func11, Try.ntmps11
      go_wp2_with (first | ((with_reducible refine gate_dst (N := 1) rfl ?_); refine box_event ?hg (N := 1) ?hd (cs := #[.int .u64 a0_0, .int .i64 a0_1, .int .i64 a0_2, .int .i64 a0_3]) (t := 31) ?hr ?_; (case hd => rfl); (case hg => rfl); (case hr => first | (go_simp; done) | (go_simp; rfl)); intro gb241 hg w13 hbox hb; have n0_ := Ext.a (below_step (Ext.nB HB.out) hb); have n1_ := Ext.a (hbox); have n2_ := Ext.a ((by rw [hg]; exact (below_size (Ext.nB HB.out)) : w.heap.size ≤ gb241)); have n3_ := Ext.a ((by rw [hg]; exact (below_size (Ext.nB HB.out)) : w.heap.size ≤ gb241)); clear HB; have HB := n0_; have BK241 := n1_; have GW241 := n2_; have GE241 := n3_; clear n0_ n1_ n2_ n3_; clear hb hbox hg; obtain ⟨hcz14_0, hcz14_1, hcz14_2, hcz14_3⟩ := Ext.cells4 BK241.out; obtain ⟨hfz14_0, hfz14_1, hfz14_2, hfz14_3⟩ := Ext.froz4 BK241.out))
      go_ret
      exact ⟨by first | rfl | (simp [errW_none, errW_some] <;> rfl) | (simp [*, errW_none, errW_some] <;> rfl), by repeat (first | (with_reducible first | exact HB.out | apply Ext.ba | apply Ext.bn | apply Ext.bd | refine Ext.bs ?_ GE241.out) | exact HB.out | exact .refl _ _)⟩
     ·
      rw [if_neg c12] at H
      have c12b0 : decide (1 < a0_2) = false := decide_eq_false c12
      clear c12
      obtain rfl := Option.some.inj H
      go_enter Try.func11, Try.ntmps11
      go_wp2_with (first | ((with_reducible refine gate_dst (N := 1) rfl ?_); refine box_event ?hg (N := 1) ?hd (cs := #[.int .u64 a0_0, .int .i64 a0_1, .int .i64 a0_2, .int .i64 a0_3]) (t := 31) ?hr ?_; (case hd => rfl); (case hg => rfl); (case hr => first | (go_simp; done) | (go_simp; rfl)); intro gb241 hg w15 hbox hb; have n0_ := Ext.a (below_step (Ext.nB HB.out) hb); have n1_ := Ext.a (hbox); have n2_ := Ext.a ((by rw [hg]; exact (below_size (Ext.nB HB.out)) : w.heap.size ≤ gb241)); have n3_ := Ext.a ((by rw [hg]; exact (below_size (Ext.nB HB.out)) : w.heap.size ≤ gb241)); clear HB; have HB := n0_; have BK241 := n1_; have GW241 := n2_; have GE241 := n3_; clear n0_ n1_ n2_ n3_; clear hb hbox hg; obtain ⟨hcz16_0, hcz16_1, hcz16_2, hcz16_3⟩ := Ext.cells4 BK241.out; obtain ⟨hfz16_0, hfz16_1, hfz16_2, hfz16_3⟩ := Ext.froz4 BK241.out))
      go_ret
      exact ⟨by first | rfl | (simp [errW_none, errW_some] <;> rfl) | (simp [*, errW_none, errW_some] <;> rfl), by repeat (first | (with_reducible first | exact HB.out | apply Ext.ba | apply Ext.bn | apply Ext.bd | refine Ext.bs ?_ GE241.out) | exact HB.out | exact .refl _ _)⟩
   ·
    rw [if_neg c8] at H
    have c8b0 : (a0_1 == 0) = false := beq_eq_false_iff_ne.mpr c8
    have c8b1 : (a0_1 != 0) = true := bne_iff_ne.mpr c8
    by_cases c17 : a0_1 > 1
    ·
     rw [if_pos c17] at H
     have c17b0 : decide (1 < a0_1) = true := decide_eq_true c17
     clear c17
     by_cases c18 : a0_1 < a0_3
     ·
      rw [if_pos c18] at H
      have c18b0 : decide (a0_1 < a0_3) = true := decide_eq_true c18
      clear c18
      by_cases c19 : a0_2 = 0
      ·
       rw [if_pos c19] at H
       have c19b0 : (a0_2 == 0) = true := beq_iff_eq.mpr c19
       have c19b1 : (a0_2 != 0) = false := bne_eq_false_iff_eq.mpr c19
       clear c19
       obtain rfl := Option.some.inj H
       go_enter Try.func11, Try.ntmps11
       go_wp2_with (first | ((with_reducible refine gate_dst (N := 1) rfl ?_); refine box_event ?hg (N := 1) ?hd (cs := #[.int .u64 a0_0, .int .i64 a0_1, .int .i64 a0_2, .int .i64 a0_3]) (t := 31) ?hr ?_; (case hd => rfl); (case hg => rfl); (case hr => first | (go_simp; done) | (go_simp; rfl)); intro gb241 hg w20 hbox hb; have n0_ := Ext.a (below_step (Ext.nB HB.out) hb); have n1_ := Ext.a (hbox); have n2_ := Ext.a ((by rw [hg]; exact (below_size (Ext.nB HB.out)) : w.heap.size ≤ gb241)); have n3_ := Ext.a ((by rw [hg]; exact (below_size (Ext.nB HB.out)) : w.heap.size ≤ gb241)); clear HB; have HB := n0_; have BK241 := n1_; have GW241 := n2_; have GE241 := n3_; clear n0_ n1_ n2_ n3_; clear hb hbox hg; obtain ⟨hcz21_0, hcz21_1, hcz21_2, hcz21_3⟩ := Ext.cells4 BK241.out; obtain ⟨hfz21_0, hfz21_1, hfz21_2, hfz21_3⟩ := Ext.froz4 BK241.out))
       go_ret
       exact ⟨by first | rfl | (simp [errW_none, errW_some] <;> rfl) | (simp [*, errW_none, errW_some] <;> rfl), by repeat (first | (with_reducible first | exact HB.out | apply Ext.ba | apply Ext.bn | apply Ext.bd | refine Ext.bs ?_ GE241.out) | exact HB.out | exact .refl _ _)⟩
      ·
       rw [if_neg c19] at H
       have c19b0 : (a0_2 == 0) = false := beq_eq_false_iff_ne.mpr c19
       have c19b1 : (a0_2 != 0) = true := bne_iff_ne.mpr c19
       by_cases c22 : a0_2 > 1
       ·
        rw [if_pos c22] at H
        have c22b0 : decide (1 < a0_2) = true := decide_eq_true c22
        clear c22
        obtain rfl := Option.some.inj H
        go_enter Try.func11, Try.ntmps11
        go_wp2_with (first | ((with_reducible refine gate_dst (N := 1) rfl ?_); refine box_event ?hg (N := 1) ?hd (cs := #[.int .u64 a0_0, .int .i64 a0_1, .int .i64 a0_2, .int .i64 a0_3]) (t := 31) ?hr ?_; (case hd => rfl); (case hg => rfl); (case hr => first | (go_simp; done) | (go_simp; rfl)); intro gb241 hg w23 hbox hb; have n0_ := Ext.a (below_step (Ext.nB HB.out) hb); have n1_ := Ext.a (hbox); have n2_ := Ext.a ((by rw [hg]; exact (below_size (Ext.nB HB.out)) : w.heap.size ≤ gb241)); have n3_ := Ext.a ((by rw [hg]; exact (below_size (Ext.nB HB.out)) : w.heap.size ≤ gb241)); clear HB; have HB := n0_; have BK241 := n1_; have GW241 := n2_; have GE241 := n3_; clear n0_ n1_ n2_ n3_; clear hb hbox hg; obtain ⟨hcz24_0, hcz24_1, hcz24_2, hcz24_3⟩ := Ext.cells4 BK241.out; obtain ⟨hfz24_0, hfz24_1, hfz24_2, hfz24_3⟩ := Ext.froz4 BK241.out))
        go_ret
        exact ⟨by first | rfl | (simp [errW_none, errW_some] <;> rfl) | (simp [*, errW_none, errW_some] <;> rfl), by repeat (first | (with_reducible first | exact HB.out | apply Ext.ba | apply Ext.bn | apply Ext.bd | refine Ext.bs ?_ GE241.out) | exact HB.out | exact .refl _ _)⟩
       ·
        rw [if_neg c22] at H
        have c22b0 : decide (1 < a0_2) = false := decide_eq_false c22
        clear c22
        obtain rfl := Option.some.inj H
        go_enter Try.func11, Try.ntmps11
        go_wp2_with (first | ((with_reducible refine gate_dst (N := 1) rfl ?_); refine box_event ?hg (N := 1) ?hd (cs := #[.int .u64 a0_0, .int .i64 a0_1, .int .i64 a0_2, .int .i64 a0_3]) (t := 31) ?hr ?_; (case hd => rfl); (case hg => rfl); (case hr => first | (go_simp; done) | (go_simp; rfl)); intro gb241 hg w25 hbox hb; have n0_ := Ext.a (below_step (Ext.nB HB.out) hb); have n1_ := Ext.a (hbox); have n2_ := Ext.a ((by rw [hg]; exact (below_size (Ext.nB HB.out)) : w.heap.size ≤ gb241)); have n3_ := Ext.a ((by rw [hg]; exact (below_size (Ext.nB HB.out)) : w.heap.size ≤ gb241)); clear HB; have HB := n0_; have BK241 := n1_; have GW241 := n2_; have GE241 := n3_; clear n0_ n1_ n2_ n3_; clear hb hbox hg; obtain ⟨hcz26_0, hcz26_1, hcz26_2, hcz26_3⟩ := Ext.cells4 BK241.out; obtain ⟨hfz26_0, hfz26_1, hfz26_2, hfz26_3⟩ := Ext.froz4 BK241.out))
        go_ret
        exact ⟨by first | rfl | (simp [errW_none, errW_some] <;> rfl) | (simp [*, errW_none, errW_some] <;> rfl), by repeat (first | (with_reducible first | exact HB.out | apply Ext.ba | apply Ext.bn | apply Ext.bd | refine Ext.bs ?_ GE241.out) | exact HB.out | exact .refl _ _)⟩
     ·
      rw [if_neg c18] at H
      have c18b0 : decide (a0_1 < a0_3) = false := decide_eq_false c18
      clear c18
      obtain rfl := Option.some.inj H
      go_enter Try.func11, Try.ntmps11
      go_wp2_with (first | ((with_reducible refine gate_dst (N := 1) rfl ?_); refine box_event ?hg (N := 1) ?hd (cs := #[.int .u64 a0_0, .int .i64 a0_1, .int .i64 a0_2, .int .i64 a0_3]) (t := 31) ?hr ?_; (case hd => rfl); (case hg => rfl); (case hr => first | (go_simp; done) | (go_simp; rfl)); intro gb241 hg w27 hbox hb; have n0_ := Ext.a (below_step (Ext.nB HB.out) hb); have n1_ := Ext.a (hbox); have n2_ := Ext.a ((by rw [hg]; exact (below_size (Ext.nB HB.out)) : w.heap.size ≤ gb241)); have n3_ := Ext.a ((by rw [hg]; exact (below_size (Ext.nB HB.out)) : w.heap.size ≤ gb241)); clear HB; have HB := n0_; have BK241 := n1_; have GW241 := n2_; have GE241 := n3_; clear n0_ n1_ n2_ n3_; clear hb hbox hg; obtain ⟨hcz28_0, hcz28_1, hcz28_2, hcz28_3⟩ := Ext.cells4 BK241.out; obtain ⟨hfz28_0, hfz28_1, hfz28_2, hfz28_3⟩ := Ext.froz4 BK241.out))
      go_ret
      exact ⟨by first | rfl | (simp [errW_none, errW_some] <;> rfl) | (simp [*, errW_none, errW_some] <;> rfl), by repeat (first | (with_reducible first | exact HB.out | apply Ext.ba | apply Ext.bn | apply Ext.bd | refine Ext.bs ?_ GE241.out) | exact HB.out | exact .refl _ _)⟩
    ·
     rw [if_neg c17] at H
     have c17b0 : decide (1 < a0_1) = false := decide_eq_false c17
     clear c17
     obtain rfl := Option.some.inj H
     go_enter Try.func11, Try.ntmps11
     go_wp2_with (first | ((with_reducible refine gate_dst (N := 1) rfl ?_); refine box_event ?hg (N := 1) ?hd (cs := #[.int .u64 a0_0, .int .i64 a0_1, .int .i64 a0_2, .int .i64 a0_3]) (t := 31) ?hr ?_; (case hd => rfl); (case hg => rfl); (case hr => first | (go_simp; done) | (go_simp; rfl)); intro gb241 hg w29 hbox hb; have n0_ := Ext.a (below_step (Ext.nB HB.out) hb); have n1_ := Ext.a (hbox); have n2_ := Ext.a ((by rw [hg]; exact (below_size (Ext.nB HB.out)) : w.heap.size ≤ gb241)); have n3_ := Ext.a ((by rw [hg]; exact (below_size (Ext.nB HB.out)) : w.heap.size ≤ gb241)); clear HB; have HB := n0_; have BK241 := n1_; have GW241 := n2_; have GE241 := n3_; clear n0_ n1_ n2_ n3_; clear hb hbox hg; obtain ⟨hcz30_0, hcz30_1, hcz30_2, hcz30_3⟩ := Ext.cells4 BK241.out; obtain ⟨hfz30_0, hfz30_1, hfz30_2, hfz30_3⟩ := Ext.froz4 BK241.out))
     go_ret
     exact ⟨by first | rfl | (simp [errW_none, errW_some] <;> rfl) | (simp [*, errW_none, errW_some] <;> rfl), by repeat (first | (with_reducible first | exact HB.out | apply Ext.ba | apply Ext.bn | apply Ext.bd | refine Ext.bs ?_ GE241.out) | exact HB.out | exact .refl _ _)⟩

end Go.Proofs.Ytfkihcdonddcoaa.PR
