-- Written by wip/printx.py, a program of this work over the kit's print, for this claim.
import Derived.Test.YtdakdlgkhnjhoaaPAx0
import Derived.Test.YtdakdlgkhnjhoaaPAx12
namespace Go.Proofs.Ytdakdlgkhnjhoaa.PA
open Go.RowKit Go.Proofs.YtdakdlgkhnjhoaaW.PrintWords Go.Proofs.YtdakdlgkhnjhoaaW.PrintLast Go.Proofs.YtdakdlgkhnjhoaaW.PrintMore
attribute [local go_sem] max2_int min2_int max_two min_two max_three min_three max_four min_four   -- for this text's walks alone
attribute [local go_sem] Ext.pick_u8 Ext.pick_u32 Ext.pick_u64
set_option linter.unusedVariables false
set_option linter.unusedSimpArgs false



/-! ### batch_Right: function 15 -/
def batch_Right.f (k : Nat) (l0 : List (S38)) : Option (Bool) := (api_Event.f k l0).bind fun t341 => (some t341)
theorem batch_Right.mono : ∀ a0 k, LeO (batch_Right.f k a0) (batch_Right.f (k + 1) a0) := by
 intro a0 k
 unfold batch_Right.f
 repeat' first
   | (with_reducible exact api_Event.mono _ _)
   | (with_reducible exact LeO.refl _)
   | (with_reducible exact LeO.none _)
   | (with_reducible refine LeO.ite ?_ ?_)
   | (with_reducible refine LeO.bind ?_ (fun _ => ?_))
   | exact api_Event.mono _ _
   | exact LeO.none _
   | refine LeO.ite ?_ ?_
   | refine LeO.bind ?_ (fun _ => ?_)
set_option maxHeartbeats 8000000 in
set_option maxRecDepth 100000 in
theorem batch_Right.calls (k : Nat) (A0 : Option Addr) (c0 : Nat) (l0 : List (S38)) (r : Bool) (w : World) (hr0 : Kd.C k38 w A0 l0.length l0) (hc0 : l0.length ≤ c0) (h : batch_Right.f k l0 = some r) :
  Calls Try.prog 15 #[.slice A0 l0.length c0] w fun e w' => e = .returned (.bool r) ∧ Below w.heap.size w w' := by
 have HR0 := Aside0.mk hr0; have HC0 := Aside0.mk hc0; clear hr0 hc0; have HB := Ext.a (Below.refl w.heap.size w); have H := h; unfold batch_Right.f at H; clear h; replace H := Option.bind_eq_some_iff.mp H; obtain ⟨t341, A20, H⟩ := H; (try dsimp only at H); have A2 := Aside0.mk A20; clear A20; obtain rfl := Option.some.inj H
 go_enter Try.func15, Try.ntmps15
 go_wp2_with (first | ((with_reducible refine gate_callee (f := 27) rfl ?_); refine Ext.gs (some 4) rfl rfl Try.func27 #[.slice A0 l0.length c0, .func (.func 28) #[] #[]] rfl ?_; (with_reducible refine (api_Event.calls k _ _ l0  t341 _ ?side1 ?side2 A2.out).mono ?_); (case side1 => repeat (first | exact HR0.out | exact HR0.out | (with_reducible refine Kd.C_alloc ?_ _) | (with_reducible refine Kd.C_drewN ?_ _) | (with_reducible refine Kd.C_drew ?_))); (case side2 => exact HC0.out); rintro e w3 ⟨rfl, hb⟩; refine ⟨_, rfl, ?_⟩; replace HB := Ext.a (below_step (Ext.nB HB.out) hb); (try clear hb)))
 go_ret
 exact ⟨by first | rfl | (simp [errW_none, errW_some] <;> rfl) | (simp [*, errW_none, errW_some] <;> rfl), by exact Ext.nB HB.out⟩



/-! ### terrierref17_Right: function 16 -/
def terrierref17_Right.l0 : Nat → List (S38) → Int → Int → Option (Bool)
 | 0, _, _, _ => none
 | k + 1, x0, x5, x6 => if x6 < x5 then (if x6 > 0 then (if 0 ≤ (wrap64 (x6 - 1)) then (if (wrap64 (x6 - 1)) < (x0.length : Int) then (if 0 ≤ x6 then (if x6 < (x0.length : Int) then (if ((rd_T38 x0 (wrap64 (x6 - 1))).f1.f3) > ((rd_T38 x0 x6).f1.f3) then (some false) else (terrierref17_Right.l0 k x0 x5 (wrap64 (x6 + 1)))) else (none)) else (none)) else (none)) else (none)) else (terrierref17_Right.l0 k x0 x5 (wrap64 (x6 + 1)))) else (some true)
def terrierref17_Right.f (k : Nat) (l0 : List (S38)) : Option (Bool) := terrierref17_Right.l0 k l0 (l0.length : Int) 0
theorem terrierref17_Right.mono_l : ∀ k, (∀ y0 y1 y2, LeO (terrierref17_Right.l0 k y0 y1 y2) (terrierref17_Right.l0 (k + 1) y0 y1 y2))
 | 0 => fun _ _ _ r h => by simp [terrierref17_Right.l0] at h
 | k + 1 => by
  have ih0 := terrierref17_Right.mono_l k
  ·
   intro y0 y1 y2
   unfold terrierref17_Right.l0
   repeat' first
   | (with_reducible exact ih0 _ _ _)
   | (with_reducible exact LeO.refl _)
   | (with_reducible exact LeO.none _)
   | (with_reducible refine LeO.ite ?_ ?_)
   | (with_reducible refine LeO.bind ?_ (fun _ => ?_))
   | exact ih0 _ _ _
   | exact LeO.none _
   | refine LeO.ite ?_ ?_
   | refine LeO.bind ?_ (fun _ => ?_)
theorem terrierref17_Right.mono : ∀ a0 k, LeO (terrierref17_Right.f k a0) (terrierref17_Right.f (k + 1) a0) := by
 intro a0 k
 have ih0 := terrierref17_Right.mono_l k; unfold terrierref17_Right.f
 repeat' first
   | (with_reducible exact ih0 _ _ _)
   | (with_reducible exact LeO.refl _)
   | (with_reducible exact LeO.none _)
   | (with_reducible refine LeO.ite ?_ ?_)
   | (with_reducible refine LeO.bind ?_ (fun _ => ?_))
   | exact ih0 _ _ _
   | exact LeO.none _
   | refine LeO.ite ?_ ?_
   | refine LeO.bind ?_ (fun _ => ?_)
set_option maxHeartbeats 8000000 in
set_option maxRecDepth 100000 in
theorem terrierref17_Right.calls (k : Nat) (A0 : Option Addr) (c0 : Nat) (l0 : List (S38)) (r : Bool) (w : World) (hr0 : Kd.C k38 w A0 l0.length l0) (hc0 : l0.length ≤ c0) (h : terrierref17_Right.f k l0 = some r) :
  Calls Try.prog 16 #[.slice A0 l0.length c0] w fun e w' => e = .returned (.bool r) ∧ Drawn0 w w' := by
 have HR0 := Aside0.mk hr0; have HC0 := Aside0.mk hc0; clear hr0 hc0; have H := h; unfold terrierref17_Right.f at H; clear h; have H' := Aside0.mk H; clear H
 go_enter Try.func16, Try.ntmps16
 go_wp2
 repeat (go_quiet (fail); try go_wp2)
 go_loopg [6] k (fun kq v6 w' => ∃ (x6_1 : Int), v6 = .int .i64 x6_1 ∧ Aside0 (terrierref17_Right.l0 kq l0 (l0.length : Int) x6_1 = some r) ∧ Aside0 (kq ≤ k) ∧ Drawn0 w w')
 case atStart => exact ⟨(0), (by first | rfl | (simp; done) | (simp [*]; done)), H', ⟨Nat.le_refl _⟩, by repeat (first | exact Drawn0.refl _ | apply Drawn0.step)⟩
 case round =>
  clear H'; (try clear c1); obtain ⟨x6_1, rfl, HA, HK1, ⟨m1, rfl⟩⟩ := hrel; cases gk with
  | zero => exact absurd HA.out (by simp [terrierref17_Right.l0])
  | succ k1 =>
   have H := HA.out; clear HA; simp only [terrierref17_Right.l0] at H
   by_cases c2 : x6_1 < (l0.length : Int)
   ·
    rw [if_pos c2] at H; have c2b0 := decide_eq_true c2; clear c2
    by_cases c3 : x6_1 > 0
    ·
     rw [if_pos c3] at H; have c3b0 := decide_eq_true c3; clear c3; obtain ⟨ji4, hji4⟩ : ∃ j_ : Int, (wrap64 (x6_1 - 1)) = j_ := ⟨_, rfl⟩
     replace H : (if 0 ≤ (ji4) then (if (ji4) < (l0.length : Int) then (if 0 ≤ x6_1 then (if x6_1 < (l0.length : Int) then (if ((rd_T38 l0 (ji4)).f1.f3) > ((rd_T38 l0 x6_1).f1.f3) then (some false) else (terrierref17_Right.l0 k1 l0 (l0.length : Int) (wrap64 (x6_1 + 1)))) else (none)) else (none)) else (none)) else (none)) = some r := by first | (rw [hji4] at H; exact H) | (simp only [hji4] at H ⊢; exact H)
     have hji4w : (IntKind.i64.wrap (x6_1 - 1)) = ji4 := (i64_w _).trans hji4
     by_cases c5 : 0 ≤ (ji4)
     ·
      rw [if_pos c5] at H; have c5b0 := decide_eq_true c5; clear c5
      by_cases c6 : (ji4) < (l0.length : Int)
      ·
       rw [if_pos c6] at H; have c6b0 := decide_eq_true c6; clear c6
       by_cases c7 : 0 ≤ x6_1
       ·
        rw [if_pos c7] at H; have c7b0 := decide_eq_true c7; clear c7
        by_cases c8 : x6_1 < (l0.length : Int)
        ·
         rw [if_pos c8] at H; have c8b0 := decide_eq_true c8; clear c8
         by_cases c9 : ((rd_T38 l0 (ji4)).f1.f3) > ((rd_T38 l0 x6_1).f1.f3)
         ·
          rw [if_pos c9] at H; have c9b0 := decide_eq_true c9; clear c9; obtain rfl := Option.some.inj H; have p342 : 0 ≤ ((ji4) : Int) := of_decide_eq_true (by first | (with_reducible assumption) | assumption); have q342 : (ji4) < (l0.length : Int) := of_decide_eq_true (by first | (with_reducible assumption) | assumption); obtain ⟨ad342, A342_1, c342_1, A342_2, c342_2, A342_8, c342_8, A342_9, c342_9, e342, hx342_0, hx342_1, hx342_2, hx342_3, hx342_4, hx342_5, hx342_6, hx342_7, hx342_8, hx342_9, hx342_10, hx342_11, hx342_12, hx342_13, hl342_1, hi342_1, hl342_2, hi342_2, hl342_8, hi342_8, hl342_9, hi342_9⟩ := at_T38 HR0.out (ji4) p342 q342; cases e342; have HR342_1 := Aside0.mk hi342_1; have HC342_1 := Aside0.mk hl342_1; clear hi342_1 hl342_1; have HR342_2 := Aside0.mk hi342_2; have HC342_2 := Aside0.mk hl342_2; clear hi342_2 hl342_2; have HR342_8 := Aside0.mk hi342_8; have HC342_8 := Aside0.mk hl342_8; clear hi342_8 hl342_8; have HR342_9 := Aside0.mk hi342_9; have HC342_9 := Aside0.mk hl342_9; clear hi342_9 hl342_9; replace p342 := eq_true p342; replace q342 := eq_true q342; have p343 : 0 ≤ (x6_1 : Int) := of_decide_eq_true (by first | (with_reducible assumption) | assumption); have q343 : x6_1 < (l0.length : Int) := of_decide_eq_true (by first | (with_reducible assumption) | assumption); obtain ⟨ad343, A343_1, c343_1, A343_2, c343_2, A343_8, c343_8, A343_9, c343_9, e343, hx343_0, hx343_1, hx343_2, hx343_3, hx343_4, hx343_5, hx343_6, hx343_7, hx343_8, hx343_9, hx343_10, hx343_11, hx343_12, hx343_13, hl343_1, hi343_1, hl343_2, hi343_2, hl343_8, hi343_8, hl343_9, hi343_9⟩ := at_T38 HR0.out x6_1 p343 q343
          obtain rfl : ad342 = ad343 := (by injection e343); have HR343_1 := Aside0.mk hi343_1; have HC343_1 := Aside0.mk hl343_1; clear hi343_1 hl343_1; have HR343_2 := Aside0.mk hi343_2; have HC343_2 := Aside0.mk hl343_2; clear hi343_2 hl343_2; have HR343_8 := Aside0.mk hi343_8; have HC343_8 := Aside0.mk hl343_8; clear hi343_8 hl343_8; have HR343_9 := Aside0.mk hi343_9; have HC343_9 := Aside0.mk hl343_9; clear hi343_9 hl343_9; replace p343 := eq_true p343; replace q343 := eq_true q343
          go_wp2
          repeat (go_quiet (fail); try go_wp2)
          go_ret
          exact ⟨by first | rfl | (simp; done) | (simp only [← hji4] <;> (first | rfl | simp)) | (simp [*]; done), by repeat (first | exact Drawn0.refl _ | apply Drawn0.step)⟩
         ·
          rw [if_neg c9] at H; have c9b0 := decide_eq_false c9; clear c9; have H' := Aside0.mk H; clear H; have p342 : 0 ≤ ((ji4) : Int) := of_decide_eq_true (by first | (with_reducible assumption) | assumption); have q342 : (ji4) < (l0.length : Int) := of_decide_eq_true (by first | (with_reducible assumption) | assumption); obtain ⟨ad342, A342_1, c342_1, A342_2, c342_2, A342_8, c342_8, A342_9, c342_9, e342, hx342_0, hx342_1, hx342_2, hx342_3, hx342_4, hx342_5, hx342_6, hx342_7, hx342_8, hx342_9, hx342_10, hx342_11, hx342_12, hx342_13, hl342_1, hi342_1, hl342_2, hi342_2, hl342_8, hi342_8, hl342_9, hi342_9⟩ := at_T38 HR0.out (ji4) p342 q342; cases e342; have HR342_1 := Aside0.mk hi342_1; have HC342_1 := Aside0.mk hl342_1; clear hi342_1 hl342_1; have HR342_2 := Aside0.mk hi342_2; have HC342_2 := Aside0.mk hl342_2; clear hi342_2 hl342_2; have HR342_8 := Aside0.mk hi342_8; have HC342_8 := Aside0.mk hl342_8; clear hi342_8 hl342_8; have HR342_9 := Aside0.mk hi342_9; have HC342_9 := Aside0.mk hl342_9; clear hi342_9 hl342_9; replace p342 := eq_true p342; replace q342 := eq_true q342; have p343 : 0 ≤ (x6_1 : Int) := of_decide_eq_true (by first | (with_reducible assumption) | assumption); have q343 : x6_1 < (l0.length : Int) := of_decide_eq_true (by first | (with_reducible assumption) | assumption); obtain ⟨ad343, A343_1, c343_1, A343_2, c343_2, A343_8, c343_8, A343_9, c343_9, e343, hx343_0, hx343_1, hx343_2, hx343_3, hx343_4, hx343_5, hx343_6, hx343_7, hx343_8, hx343_9, hx343_10, hx343_11, hx343_12, hx343_13, hl343_1, hi343_1, hl343_2, hi343_2, hl343_8, hi343_8, hl343_9, hi343_9⟩ := at_T38 HR0.out x6_1 p343 q343
          obtain rfl : ad342 = ad343 := (by injection e343); have HR343_1 := Aside0.mk hi343_1; have HC343_1 := Aside0.mk hl343_1; clear hi343_1 hl343_1; have HR343_2 := Aside0.mk hi343_2; have HC343_2 := Aside0.mk hl343_2; clear hi343_2 hl343_2; have HR343_8 := Aside0.mk hi343_8; have HC343_8 := Aside0.mk hl343_8; clear hi343_8 hl343_8; have HR343_9 := Aside0.mk hi343_9; have HC343_9 := Aside0.mk hl343_9; clear hi343_9 hl343_9; replace p343 := eq_true p343; replace q343 := eq_true q343
          go_wp2
          repeat (go_quiet (fail); try go_wp2)
          go_roundg k1
          case measure => have := HK1.out; omega
          case rel => exact ⟨(wrap64 (x6_1 + 1)), (by first | rfl | (simp; done) | (simp [*]; done)), H', ⟨by have := HK1.out; omega⟩, by repeat (first | exact Drawn0.refl _ | apply Drawn0.step)⟩
        · rw [if_neg c8] at H; exact absurd H (by simp)
       · rw [if_neg c7] at H; exact absurd H (by simp)
      · rw [if_neg c6] at H; exact absurd H (by simp)
     · rw [if_neg c5] at H; exact absurd H (by simp)
    ·
     rw [if_neg c3] at H; have c3b0 := decide_eq_false c3; clear c3; have H' := Aside0.mk H; clear H
     go_wp2
     repeat (go_quiet (fail); try go_wp2)
     go_roundg k1
     case measure => have := HK1.out; omega
     case rel => exact ⟨(wrap64 (x6_1 + 1)), (by first | rfl | (simp; done) | (simp [*]; done)), H', ⟨by have := HK1.out; omega⟩, by repeat (first | exact Drawn0.refl _ | apply Drawn0.step)⟩
   ·
    rw [if_neg c2] at H; have c2b0 := decide_eq_false c2; clear c2; obtain rfl := Option.some.inj H
    go_wp2
    repeat (go_quiet (fail); try go_wp2)
    go_ret
    exact ⟨by first | rfl | (simp; done) | (simp [*]; done), by repeat (first | exact Drawn0.refl _ | apply Drawn0.step)⟩

/-! ### what is known of a struct of type 28 that came in -/
def ok28 (x : S28) : Prop := Open.okSlice (fun y_ => (Lit.int .u8 y_).wf = true) 1 x.f0 ∧ Open.okSlice (fun y_ => (Lit.int .u8 y_).wf = true) 1 x.f1 ∧ (Lit.int .i64 x.f2).wf = true ∧ True ∧ True ∧ True
set_option maxRecDepth 100000 in
theorem opens28 : Open.Opens Try.prog 28 k28 ok28 := by
  intro H enc W base spare held fuel cs x h hw
  obtain ⟨xs, n, _, rfl, hl, hlen, hf⟩ := DataW.trod_struct Try.underlying28 h; have hl' : cs.length = 6 := hl.trans (by kernel_rfl); obtain ⟨y0, K0, o0⟩ := Open.field_at (o := 0) (s := 1) (i := 0) Try.underlying28 rfl (Open.opens_slice Try.underlying26 (Open.opens_int Try.underlying5) (by kernel_rfl) (by kernel_rfl)) (by kernel_rfl) rfl hlen hf hw; obtain ⟨y1, K1, o1⟩ := Open.field_at (o := 1) (s := 1) (i := 1) Try.underlying28 rfl (Open.opens_slice Try.underlying26 (Open.opens_int Try.underlying5) (by kernel_rfl) (by kernel_rfl)) (by kernel_rfl) rfl hlen hf hw; obtain ⟨y2, K2, o2⟩ := Open.field_at (o := 2) (s := 1) (i := 2) Try.underlying28 rfl (Open.opens_int Try.underlying2) (by kernel_rfl) rfl hlen hf hw; obtain ⟨y3, K3, o3⟩ := Open.field_at (o := 3) (s := 1) (i := 3) Try.underlying28 rfl (Open.opens_bool Try.underlying4) (by kernel_rfl) rfl hlen hf hw; obtain ⟨y4, K4, o4⟩ := Open.field_at (o := 4) (s := 1) (i := 4) Try.underlying28 rfl (Open.opens_bool Try.underlying4) (by kernel_rfl) rfl hlen hf hw; obtain ⟨y5, K5, o5⟩ := Open.field_at (o := 5) (s := 1) (i := 5) Try.underlying28 rfl (Open.opens_bool Try.underlying4) (by kernel_rfl) rfl hlen hf hw; have z : k28.K W (⟨y0, y1, y2, y3, y4, y5⟩ : S28) (cs.drop 0) := (Open.pair_piece (o := 0) (s := 1) (o' := 1) rfl K0 (Open.pair_piece (o := 1) (s := 1) (o' := 2) rfl K1 (Open.pair_piece (o := 2) (s := 1) (o' := 3) rfl K2 (Open.pair_piece (o := 3) (s := 1) (o' := 4) rfl K3 (Open.pair_piece (o := 4) (s := 1) (o' := 5) rfl K4 (Open.last_piece (o := 5) (s := 1) hl' K5))))))
  rw [List.drop_zero] at z
  exact ⟨_, z, o0, o1, o2, o3, o4, o5⟩

/-! ### what is known of a struct of type 36 that came in -/
def ok36 (x : S36) : Prop := Open.okSlice (fun y_ => (Lit.int .u8 y_).wf = true) 1 x.f0 ∧ Open.okSlice (fun y_ => (Lit.int .u8 y_).wf = true) 1 x.f1 ∧ (Lit.int .i64 x.f2).wf = true ∧ (Lit.int .i64 x.f3).wf = true ∧ (Lit.int .i64 x.f4).wf = true ∧ (Lit.int .i64 x.f5).wf = true
set_option maxRecDepth 100000 in
theorem opens36 : Open.Opens Try.prog 36 k36 ok36 := by
  intro H enc W base spare held fuel cs x h hw
  obtain ⟨xs, n, _, rfl, hl, hlen, hf⟩ := DataW.trod_struct Try.underlying36 h; have hl' : cs.length = 6 := hl.trans (by kernel_rfl); obtain ⟨y0, K0, o0⟩ := Open.field_at (o := 0) (s := 1) (i := 0) Try.underlying36 rfl (Open.opens_slice Try.underlying26 (Open.opens_int Try.underlying5) (by kernel_rfl) (by kernel_rfl)) (by kernel_rfl) rfl hlen hf hw; obtain ⟨y1, K1, o1⟩ := Open.field_at (o := 1) (s := 1) (i := 1) Try.underlying36 rfl (Open.opens_slice Try.underlying26 (Open.opens_int Try.underlying5) (by kernel_rfl) (by kernel_rfl)) (by kernel_rfl) rfl hlen hf hw; obtain ⟨y2, K2, o2⟩ := Open.field_at (o := 2) (s := 1) (i := 2) Try.underlying36 rfl (Open.opens_int Try.underlying2) (by kernel_rfl) rfl hlen hf hw; obtain ⟨y3, K3, o3⟩ := Open.field_at (o := 3) (s := 1) (i := 3) Try.underlying36 rfl (Open.opens_int Try.underlying2) (by kernel_rfl) rfl hlen hf hw; obtain ⟨y4, K4, o4⟩ := Open.field_at (o := 4) (s := 1) (i := 4) Try.underlying36 rfl (Open.opens_int Try.underlying2) (by kernel_rfl) rfl hlen hf hw; obtain ⟨y5, K5, o5⟩ := Open.field_at (o := 5) (s := 1) (i := 5) Try.underlying36 rfl (Open.opens_int Try.underlying2) (by kernel_rfl) rfl hlen hf hw; have z : k36.K W (⟨y0, y1, y2, y3, y4, y5⟩ : S36) (cs.drop 0) := (Open.pair_piece (o := 0) (s := 1) (o' := 1) rfl K0 (Open.pair_piece (o := 1) (s := 1) (o' := 2) rfl K1 (Open.pair_piece (o := 2) (s := 1) (o' := 3) rfl K2 (Open.pair_piece (o := 3) (s := 1) (o' := 4) rfl K3 (Open.pair_piece (o := 4) (s := 1) (o' := 5) rfl K4 (Open.last_piece (o := 5) (s := 1) hl' K5))))))
  rw [List.drop_zero] at z
  exact ⟨_, z, o0, o1, o2, o3, o4, o5⟩

/-! ### what is known of a struct of type 38 that came in -/
def ok38 (x : S38) : Prop := (Lit.int .i64 x.f0).wf = true ∧ ok36 x.f1 ∧ True ∧ ok36 x.f3
set_option maxRecDepth 100000 in
theorem opens38 : Open.Opens Try.prog 38 k38 ok38 := by
  intro H enc W base spare held fuel cs x h hw
  obtain ⟨xs, n, _, rfl, hl, hlen, hf⟩ := DataW.trod_struct Try.underlying38 h; have hl' : cs.length = 14 := hl.trans (by kernel_rfl); obtain ⟨y0, K0, o0⟩ := Open.field_at (o := 0) (s := 1) (i := 0) Try.underlying38 rfl (Open.opens_int Try.underlying3) (by kernel_rfl) rfl hlen hf hw; obtain ⟨y1, K1, o1⟩ := Open.field_at (o := 1) (s := 6) (i := 1) Try.underlying38 rfl opens36 (by kernel_rfl) rfl hlen hf hw; obtain ⟨y2, K2, o2⟩ := Open.field_at (o := 7) (s := 1) (i := 2) Try.underlying38 rfl (Open.opens_bool Try.underlying4) (by kernel_rfl) rfl hlen hf hw; obtain ⟨y3, K3, o3⟩ := Open.field_at (o := 8) (s := 6) (i := 3) Try.underlying38 rfl opens36 (by kernel_rfl) rfl hlen hf hw; have z : k38.K W (⟨y0, y1, y2, y3⟩ : S38) (cs.drop 0) := (Open.pair_piece (o := 0) (s := 1) (o' := 1) rfl K0 (Open.pair_piece (o := 1) (s := 6) (o' := 7) rfl K1 (Open.pair_piece (o := 7) (s := 1) (o' := 8) rfl K2 (Open.last_piece (o := 8) (s := 6) hl' K3)))); rw [List.drop_zero] at z
  exact ⟨_, z, o0, o1, o2, o3⟩

end Go.Proofs.Ytdakdlgkhnjhoaa.PA
