-- Written by wip/printx.py, a program of this work over the kit's print, for this claim.
import Derived.Test.YtfkihcdonddcoaaPCx0
import Derived.Test.YtfkihcdonddcoaaPCx2
import Derived.Test.YtfkihcdonddcoaaPCx10
import Derived.Test.YtfkihcdonddcoaaPCx11
import Derived.Test.YtfkihcdonddcoaaPCx15
namespace Go.Proofs.Ytfkihcdonddcoaa.PC
open Go.RowKit Go.Proofs.YtfkihcdonddcoaaW.PrintWords Go.Proofs.YtfkihcdonddcoaaW.PrintLast Go.Proofs.YtfkihcdonddcoaaW.PrintMore
attribute [local go_sem] max2_int min2_int max_two min_two max_three min_three max_four min_four   -- for this text's walks alone
attribute [local go_sem] Ext.pick_u8 Ext.pick_u32 Ext.pick_u64
set_option linter.unusedVariables false
set_option linter.unusedSimpArgs false

attribute [local go_sem high] eqA31


/-! ### terrierlaw05_MetaChooses: function 6 -/
def terrierlaw05_MetaChooses.j0 : Nat → List Int → List Int → Bool → Option (Bool)
 | 0, _, _, _ => none
 | k + 1, x0, x1, x20 => if x20 = true then ((terrierlaw05_lives.f k).bind fun t315 => (some t315)) else ((meta_Choose.f k x0 x1).bind fun bt316 => ((terrierref05_Choose.f k x0 x1).bind fun bt322 => ((terrierlaw05_of.f bt316.1 bt316.2.1 bt316.2.2.1 bt316.2.2.2.1).bind fun bt328 => (if (bt328.1 == bt322.1 && (bt328.2.1 == bt322.2.1 && (bt328.2.2.1 == bt322.2.2.1 && (bt328.2.2.2 == bt322.2.2.2.1)))) = true then (some (bt316.2.2.2.2 == bt322.2.2.2.2)) else (some false)))))
def terrierlaw05_MetaChooses.f (k : Nat) (l0 : List Int) (l1 : List Int) : Option (Bool) := (terrierlaw05_lives.f k).bind fun t314 => (if t314 = true then (if (l0.length : Int) > 1000 then (terrierlaw05_MetaChooses.j0 k l0 l1 true) else (terrierlaw05_MetaChooses.j0 k l0 l1 (decide ((l1.length : Int) > 1000)))) else (terrierlaw05_MetaChooses.j0 k l0 l1 true))
theorem terrierlaw05_MetaChooses.mono_l : ∀ k, (∀ y0 y1 y2, LeO (terrierlaw05_MetaChooses.j0 k y0 y1 y2) (terrierlaw05_MetaChooses.j0 (k + 1) y0 y1 y2))
 | 0 => fun _ _ _ r h => by simp [terrierlaw05_MetaChooses.j0] at h
 | k + 1 => by
  have ih0 := terrierlaw05_MetaChooses.mono_l k
  ·
   intro y0 y1 y2
   unfold terrierlaw05_MetaChooses.j0
   repeat' first
   | (with_reducible exact ih0 _ _ _)
   | (with_reducible exact meta_Choose.mono _ _ _)
   | (with_reducible exact terrierlaw05_lives.mono _)
   | (with_reducible exact terrierref05_Choose.mono _ _ _)
   | (with_reducible exact LeO.refl _)
   | (with_reducible exact LeO.none _)
   | (with_reducible refine LeO.ite ?_ ?_)
   | (with_reducible refine LeO.bind ?_ (fun _ => ?_))
   | exact ih0 _ _ _
   | exact meta_Choose.mono _ _ _
   | exact terrierlaw05_lives.mono _
   | exact terrierref05_Choose.mono _ _ _
   | exact LeO.none _
   | refine LeO.ite ?_ ?_
   | refine LeO.bind ?_ (fun _ => ?_)
theorem terrierlaw05_MetaChooses.mono : ∀ a0 a1 k, LeO (terrierlaw05_MetaChooses.f k a0 a1) (terrierlaw05_MetaChooses.f (k + 1) a0 a1) := by
 intro a0 a1 k
 have ih0 := terrierlaw05_MetaChooses.mono_l k
 unfold terrierlaw05_MetaChooses.f
 repeat' first
   | (with_reducible exact ih0 _ _ _)
   | (with_reducible exact meta_Choose.mono _ _ _)
   | (with_reducible exact terrierlaw05_lives.mono _)
   | (with_reducible exact terrierref05_Choose.mono _ _ _)
   | (with_reducible exact LeO.refl _)
   | (with_reducible exact LeO.none _)
   | (with_reducible refine LeO.ite ?_ ?_)
   | (with_reducible refine LeO.bind ?_ (fun _ => ?_))
   | exact ih0 _ _ _
   | exact meta_Choose.mono _ _ _
   | exact terrierlaw05_lives.mono _
   | exact terrierref05_Choose.mono _ _ _
   | exact LeO.none _
   | refine LeO.ite ?_ ?_
   | refine LeO.bind ?_ (fun _ => ?_)
def terrierlaw05_MetaChooses.T5 : Bool × List (List Nat × List Nat) := (true, [([], []), ([0], [0]), ([], []), ([1, 2], [1, 2]), ([3, 1], [3]), ([4], [4]), ([4], [4]), ([5, 6, 4], [4, 5, 6]), ([4, 7], [4, 7]), ([8, 4, 0, 1, 2, 3, 4, 5, 6, 7, 8], [8])])
def terrierlaw05_MetaChooses.B5 : List Nat := [0, 1, 0, 7, 15, 31, 31, 127, 255, 511]
theorem terrierlaw05_MetaChooses.tab5 : rtab .any (opsOf Try.f6 5) = terrierlaw05_MetaChooses.T5 := by kernel_rfl
theorem terrierlaw05_MetaChooses.bits5 : waitsOk terrierlaw05_MetaChooses.T5.2 terrierlaw05_MetaChooses.B5 = true := by kernel_rfl
set_option maxHeartbeats 8000000 in
set_option maxRecDepth 100000 in
theorem terrierlaw05_MetaChooses.calls (k : Nat) (A0 : Option Addr) (c0 : Nat) (l0 : List Int) (A1 : Option Addr) (c1 : Nat) (l1 : List Int) (r : Bool) (w : World) (hr0 : Kd.C (Kd.int .u8) w A0 l0.length l0) (hc0 : l0.length ≤ c0) (hr1 : Kd.C (Kd.int .u8) w A1 l1.length l1) (hc1 : l1.length ≤ c1) (h : terrierlaw05_MetaChooses.f k l0 l1 = some r) :
  Calls Try.prog 6 #[.slice A0 l0.length c0, .slice A1 l1.length c1] w fun e w' => e = .returned (.bool r) ∧ Below w.heap.size w w' := by
 have hu24 := Try.underlying24
 have hu31 := Try.underlying31
 have HR0 := Aside0.mk hr0
 have HC0 := Aside0.mk hc0
 clear hr0 hc0
 have HR1 := Aside0.mk hr1
 have HC1 := Aside0.mk hc1
 clear hr1 hc1
 have HB := Ext.a (Below.refl w.heap.size w)
 have H : ((terrierlaw05_lives.f k).bind fun t314 => (if t314 = true then (if (l0.length : Int) > 1000 then (terrierlaw05_MetaChooses.j0 k l0 l1 true) else (terrierlaw05_MetaChooses.j0 k l0 l1 (decide ((l1.length : Int) > 1000)))) else (terrierlaw05_MetaChooses.j0 k l0 l1 true))) = some r := h
 clear h
 have HC3 := Aside0.mk H
 clear H
 go_enter Try.func6, Try.ntmps6
 go_upto_region 1 with (fail)
 go_cut [20] (fun v20 wc => ∃ (kq : Nat) (x20_2 : Bool), v20 = .bool x20_2 ∧ Aside0 (terrierlaw05_MetaChooses.j0 kq l0 l1 x20_2 = some r) ∧ Aside0 (kq ≤ k) ∧ Aside0 (Below w.heap.size w wc))
 case first =>
  have H := HC3.out
  clear HC3
  replace H := Option.bind_eq_some_iff.mp H
  obtain ⟨t314, A40, H⟩ := H
  replace H : (if t314 = true then (if (l0.length : Int) > 1000 then (terrierlaw05_MetaChooses.j0 k l0 l1 true) else (terrierlaw05_MetaChooses.j0 k l0 l1 (decide ((l1.length : Int) > 1000)))) else (terrierlaw05_MetaChooses.j0 k l0 l1 true)) = some r := H
  have A4 := Aside0.mk A40
  clear A40
  by_cases c5 : t314 = true
  ·
   subst c5
   have H1 : (if (l0.length : Int) > 1000 then (terrierlaw05_MetaChooses.j0 k l0 l1 true) else (terrierlaw05_MetaChooses.j0 k l0 l1 (decide ((l1.length : Int) > 1000)))) = some r := by rw [if_pos rfl] at H; exact H
   clear H
   have H := H1
   clear H1
   by_cases c6 : (l0.length : Int) > 1000
   ·
    rw [if_pos c6] at H
    have c6b0 : decide (1000 < (l0.length : Int)) = true := decide_eq_true c6
    have c6b1 : decide (1000 < l0.length) = true := decide_eq_true (by omega)
    clear c6
    (first | rw [c6b0] | (simp only [i64_w, i32_w]; rw [c6b0]) | skip)
    have H' := Aside0.mk H
    clear H
    go_wp2_with (first | ((with_reducible refine gate_callee (f := 9) rfl ?_); refine goesL_ (some 9) rfl rfl Try.func9 (by kernel_rfl) rfl #[] rfl (by (try simp only [List.map_toArray, List.map_cons, List.map_nil]); first | done | rfl | (simp only [List.length_drop, List.length_take]; rfl)) ?_; (with_reducible refine (terrierlaw05_lives.calls k  true _ A4.out).mono ?_); rintro e w7 ⟨rfl, hb⟩; refine ⟨_, rfl, ?_⟩; have n0_ := Ext.a (below_step (Ext.nB HB.out) hb); clear HB; have HB := n0_; clear n0_; (try clear hb); (try clear hb2); (try clear hk); (try clear hi)))
    go_meet
    case rel => exact ⟨_, (true), (by first | rfl | (simp; done) | (simp [*]; done)), H', ⟨by first | omega | exact Nat.le_refl _⟩, ⟨by repeat (first | (with_reducible first | exact HB.out | apply Ext.ba | apply Ext.bn | apply Ext.bd) | exact HB.out | exact .refl _ _)⟩⟩
   ·
    rw [if_neg c6] at H
    have c6b0 : decide (1000 < (l0.length : Int)) = false := decide_eq_false c6
    have c6b1 : decide (1000 < l0.length) = false := decide_eq_false (by omega)
    clear c6
    (first | rw [c6b0] | (simp only [i64_w, i32_w]; rw [c6b0]) | skip)
    have H' := Aside0.mk H
    clear H
    go_wp2_with (first | ((with_reducible refine gate_callee (f := 9) rfl ?_); refine goesL_ (some 9) rfl rfl Try.func9 (by kernel_rfl) rfl #[] rfl (by (try simp only [List.map_toArray, List.map_cons, List.map_nil]); first | done | rfl | (simp only [List.length_drop, List.length_take]; rfl)) ?_; (with_reducible refine (terrierlaw05_lives.calls k  true _ A4.out).mono ?_); rintro e w8 ⟨rfl, hb⟩; refine ⟨_, rfl, ?_⟩; have n0_ := Ext.a (below_step (Ext.nB HB.out) hb); clear HB; have HB := n0_; clear n0_; (try clear hb); (try clear hb2); (try clear hk); (try clear hi)))
    go_meet
    case rel => exact ⟨_, (decide ((l1.length : Int) > 1000)), (by first | rfl | (simp; done) | (simp [*]; done)), H', ⟨by first | omega | exact Nat.le_refl _⟩, ⟨by repeat (first | (with_reducible first | exact HB.out | apply Ext.ba | apply Ext.bn | apply Ext.bd) | exact HB.out | exact .refl _ _)⟩⟩
  ·
   replace c5 := Bool.eq_false_iff.mpr c5
   subst c5
   have H1 : (terrierlaw05_MetaChooses.j0 k l0 l1 true) = some r := by rw [if_neg (show ¬ (false = true) by decide)] at H; exact H
   clear H
   have H := H1
   clear H1
   have H' := Aside0.mk H
   clear H
   go_wp2_with (first | ((with_reducible refine gate_callee (f := 9) rfl ?_); refine goesL_ (some 9) rfl rfl Try.func9 (by kernel_rfl) rfl #[] rfl (by (try simp only [List.map_toArray, List.map_cons, List.map_nil]); first | done | rfl | (simp only [List.length_drop, List.length_take]; rfl)) ?_; (with_reducible refine (terrierlaw05_lives.calls k  false _ A4.out).mono ?_); rintro e w9 ⟨rfl, hb⟩; refine ⟨_, rfl, ?_⟩; have n0_ := Ext.a (below_step (Ext.nB HB.out) hb); clear HB; have HB := n0_; clear n0_; (try clear hb); (try clear hb2); (try clear hk); (try clear hi)))
   go_meet
   case rel => exact ⟨_, (true), (by first | rfl | (simp; done) | (simp [*]; done)), H', ⟨by first | omega | exact Nat.le_refl _⟩, ⟨by repeat (first | (with_reducible first | exact HB.out | apply Ext.ba | apply Ext.bn | apply Ext.bd) | exact HB.out | exact .refl _ _)⟩⟩
 case rest =>
  clear HC3
  try clear c1
  try clear p2
  try clear c5
  try clear c6
  try clear c6b0
  try clear c6b1
  try clear c9
  obtain ⟨kq, x20_2, rfl, HA, HJ2, HB⟩ := hcut
  cases kq with
  | zero => exact absurd HA.out (by simp [terrierlaw05_MetaChooses.j0])
  | succ kj2 =>
   have H := HA.out
   clear HA
   simp only [terrierlaw05_MetaChooses.j0] at H
   by_cases c10 : x20_2 = true
   ·
    subst c10
    have H1 : ((terrierlaw05_lives.f kj2).bind fun t315 => (some t315)) = some r := by rw [if_pos rfl] at H; exact H
    clear H
    have H := H1
    clear H1
    replace H := Option.bind_eq_some_iff.mp H
    obtain ⟨t315, A110, H⟩ := H
    replace H : (some t315) = some r := H
    have A11 := Aside0.mk A110
    clear A110
    obtain rfl := Option.some.inj H
    go_wp2_with (first | ((with_reducible refine gate_callee (f := 9) rfl ?_); refine goesL_ (some 21) rfl rfl Try.func9 (by kernel_rfl) rfl #[] rfl (by (try simp only [List.map_toArray, List.map_cons, List.map_nil]); first | done | rfl | (simp only [List.length_drop, List.length_take]; rfl)) ?_; (with_reducible refine (terrierlaw05_lives.calls kj2  t315 _ A11.out).mono ?_); rintro e w12 ⟨rfl, hb⟩; refine ⟨_, rfl, ?_⟩; have n0_ := Ext.a (below_step (Ext.nB HB.out) hb); clear HB; have HB := n0_; clear n0_; (try clear hb); (try clear hb2); (try clear hk); (try clear hi)))
    go_ret
    exact ⟨by first | rfl | (simp [errW_none, errW_some] <;> rfl) | (simp [*, errW_none, errW_some] <;> rfl), by repeat (first | (with_reducible first | exact HB.out | apply Ext.ba | apply Ext.bn | apply Ext.bd) | exact HB.out | exact .refl _ _)⟩
   ·
    replace c10 := Bool.eq_false_iff.mpr c10
    subst c10
    have H1 : ((meta_Choose.f kj2 l0 l1).bind fun bt316 => ((terrierref05_Choose.f kj2 l0 l1).bind fun bt322 => ((terrierlaw05_of.f bt316.1 bt316.2.1 bt316.2.2.1 bt316.2.2.2.1).bind fun bt328 => (if (bt328.1 == bt322.1 && (bt328.2.1 == bt322.2.1 && (bt328.2.2.1 == bt322.2.2.1 && (bt328.2.2.2 == bt322.2.2.2.1)))) = true then (some (bt316.2.2.2.2 == bt322.2.2.2.2)) else (some false))))) = some r := by rw [if_neg (show ¬ (false = true) by decide)] at H; exact H
    clear H
    have H := H1
    clear H1
    replace H := Option.bind_eq_some_iff.mp H
    obtain ⟨⟨t316, t317, t318, t319, t320⟩, A130, H⟩ := H
    replace H : ((terrierref05_Choose.f kj2 l0 l1).bind fun bt322 => ((terrierlaw05_of.f t316 t317 t318 t319).bind fun bt328 => (if (bt328.1 == bt322.1 && (bt328.2.1 == bt322.2.1 && (bt328.2.2.1 == bt322.2.2.1 && (bt328.2.2.2 == bt322.2.2.2.1)))) = true then (some (t320 == bt322.2.2.2.2)) else (some false)))) = some r := H
    have A13 := Aside0.mk A130
    clear A130
    replace H := Option.bind_eq_some_iff.mp H
    obtain ⟨⟨t322, t323, t324, t325, t326⟩, A140, H⟩ := H
    replace H : ((terrierlaw05_of.f t316 t317 t318 t319).bind fun bt328 => (if (bt328.1 == t322 && (bt328.2.1 == t323 && (bt328.2.2.1 == t324 && (bt328.2.2.2 == t325)))) = true then (some (t320 == t326)) else (some false))) = some r := H
    have A14 := Aside0.mk A140
    clear A140
    replace H := Option.bind_eq_some_iff.mp H
    obtain ⟨⟨t328, t329, t330, t331⟩, A150, H⟩ := H
    replace H : (if (t328 == t322 && (t329 == t323 && (t330 == t324 && (t331 == t325)))) = true then (some (t320 == t326)) else (some false)) = some r := H
    have A15 := Aside0.mk A150
    clear A150
    by_cases c16 : (t328 == t322 && (t329 == t323 && (t330 == t324 && (t331 == t325)))) = true
    ·
     rw [if_pos c16] at H
     have c16b0 : (t328 == t322 && (t329 == t323 && (t330 == t324 && (t331 == t325)))) = true := c16
     (try (have c16b1 : decide (t328 = t322 && (t329 == t323 && (t330 == t324 && (t331 == t325)))) = true := by simpa using c16))
     (try (have c16b2 : (t328 == t322 && (t329 == t323 && (t330 == t324 && (t331 == t325)))) = true := by simpa using c16))
     clear c16
     obtain rfl := Option.some.inj H
     try go_wp2_with (first | ((with_reducible refine gate_callee (f := 20) rfl ?_); refine goesL_ (some 25) rfl rfl Try.func20 (by kernel_rfl) rfl #[.slice A0 l0.length c0, .slice A1 l1.length c1] rfl (by (try simp only [List.map_toArray, List.map_cons, List.map_nil]); first | done | rfl | (simp only [List.length_drop, List.length_take]; rfl)) ?_; (with_reducible refine (meta_Choose.calls kj2 (fun k_ => k_ < w.heap.size) _ _ l0 (fun k_ => k_ < w.heap.size) _ _ l1 t316 t317 t318 t319 t320 _ ?side1 ?side2 A13.out).mono ?_); (case side1 => exact Kd.V_mk HC0.out (Kd.F_below (Kd.C_F (Kd.heap_int .u8) HR0.out) (Ext.nB HB.out))); (case side2 => exact Kd.V_mk HC1.out (Kd.F_below (Kd.C_F (Kd.heap_int .u8) HR1.out) (Ext.nB HB.out))); rintro e w17 ⟨rfl, hb⟩; refine ⟨_, rfl, ?_⟩; have n0_ := Ext.a (below_step (Ext.nB HB.out) hb); clear HB; have HB := n0_; clear n0_; (try clear hb); (try clear hb2); (try clear hk); (try clear hi)) | ((with_reducible refine gate_dst (N := 5) rfl ?_); (try (refine gate_guard (by rfl) ?_; dsimp only)); refine box_event ?hg (N := 5) ?hd (cs := #[.int .u64 0, .int .i64 0, .int .i64 0, .int .i64 0]) (t := 24) ?hr ?_; (case hd => rfl); (case hg => rfl); (case hr => first | (go_simp; done) | (go_simp; rfl)); intro gb321 hg w18 hbox hb; have n0_ := Ext.a (below_step (Ext.nB HB.out) hb); have n1_ := Ext.a (hbox); have n2_ := Ext.a ((by rw [hg]; exact (below_size (Ext.nB HB.out)) : w.heap.size ≤ gb321)); have n3_ := Ext.a ((by rw [hg]; exact (below_size (Ext.nB HB.out)) : w.heap.size ≤ gb321)); clear HB; have HB := n0_; have BK321 := n1_; have GW321 := n2_; have GE321 := n3_; clear n0_ n1_ n2_ n3_; clear hb hbox hg; obtain ⟨hcz19_0, hcz19_1, hcz19_2, hcz19_3⟩ := Ext.cells4 BK321.out; obtain ⟨hfz19_0, hfz19_1, hfz19_2, hfz19_3⟩ := Ext.froz4 BK321.out) | ((with_reducible refine gate_callee (f := 21) rfl ?_); refine goesL_ (some 31) rfl rfl Try.func21 (by kernel_rfl) rfl #[.slice A0 l0.length c0, .slice A1 l1.length c1] rfl (by (try simp only [List.map_toArray, List.map_cons, List.map_nil]); first | done | rfl | (simp only [List.length_drop, List.length_take]; rfl)) ?_; (with_reducible refine (terrierref05_Choose.calls kj2 _ _ l0 _ _ l1 t322 t323 t324 t325 t326 _ ?side1 ?side2 ?side3 ?side4 A14.out).mono ?_); (case side1 => exact Kd.C_below HR0.out (by repeat (first | (with_reducible first | exact HB.out | apply Ext.ba | apply Ext.bn | apply Ext.bd | refine Ext.bs ?_ GE321.out) | exact HB.out | exact .refl _ _))); (case side2 => exact HC0.out); (case side3 => exact Kd.C_below HR1.out (by repeat (first | (with_reducible first | exact HB.out | apply Ext.ba | apply Ext.bn | apply Ext.bd | refine Ext.bs ?_ GE321.out) | exact HB.out | exact .refl _ _))); (case side4 => exact HC1.out); rintro e w20 ⟨rfl, hb⟩; refine ⟨_, rfl, ?_⟩; have n0_ := Ext.a (blk_below (g := gb321) (o := .cells #[.int .u64 t316, .int .i64 t317, .int .i64 t318, .int .i64 t319] 24 (0, 0)) (by exact Ext.puts4 BK321.out) hb); have n1_ := Ext.a (below_step (by repeat (first | (with_reducible first | exact HB.out | apply Ext.ba | apply Ext.bn | apply Ext.bd | refine Ext.bs ?_ GE321.out) | exact HB.out | exact .refl _ _)) hb); clear BK321 HB; have BK321 := n0_; have HB := n1_; clear n0_ n1_; (try clear hb); (try clear hb2); (try clear hk); (try clear hi)) | ((with_reducible refine gate_dst (N := 7) rfl ?_); (try (refine gate_guard (by rfl) ?_; dsimp only)); refine box_event ?hg (N := 7) ?hd (cs := #[.int .u64 0, .int .i64 0, .int .i64 0, .int .i64 0]) (t := 31) ?hr ?_; (case hd => rfl); (case hg => rfl); (case hr => first | (go_simp; done) | (go_simp; rfl)); intro gb327 hg w21 hbox hb; have n0_ := Ext.a (blk_below BK321.out hb); have n1_ := Ext.a (below_step (by repeat (first | (with_reducible first | exact HB.out | apply Ext.ba | apply Ext.bn | apply Ext.bd | refine Ext.bs ?_ GE321.out) | exact HB.out | exact .refl _ _)) hb); have n2_ := Ext.a (hbox); have n3_ := Ext.a ((by rw [hg]; exact (below_size (by repeat (first | (with_reducible first | exact HB.out | apply Ext.ba | apply Ext.bn | apply Ext.bd | refine Ext.bs ?_ GE321.out) | exact HB.out | exact .refl _ _))) : w.heap.size ≤ gb327)); have n4_ := Ext.a ((by rw [hg]; exact (below_size (by repeat (first | (with_reducible first | exact HB.out | apply Ext.ba | apply Ext.bn | apply Ext.bd | refine Ext.bs ?_ GE321.out) | exact HB.out | exact .refl _ _))) : w.heap.size ≤ gb327)); have n5_ := Ext.a ((by rw [hg]; exact Nat.ne_of_lt (blk_lt BK321.out) : gb321 ≠ gb327)); have n6_ := Ext.a ((by rw [hg]; exact Nat.ne_of_gt (blk_lt BK321.out) : gb327 ≠ gb321)); clear BK321 HB; have BK321 := n0_; have HB := n1_; have BK327 := n2_; have GW327 := n3_; have GE327 := n4_; have NB321_327 := n5_; have NB327_321 := n6_; clear n0_ n1_ n2_ n3_ n4_ n5_ n6_; clear hb hbox hg; have hnb22 := NB327_321.out; have hnc22 := NB321_327.out; obtain ⟨hcz23_0, hcz23_1, hcz23_2, hcz23_3⟩ := Ext.cells4 BK327.out; obtain ⟨hfz23_0, hfz23_1, hfz23_2, hfz23_3⟩ := Ext.froz4 BK327.out))
     have n0_ : Aside0 (((((w21.setCell ⟨gb327, 0, none⟩ (.int .u64 t322)).setCell ⟨gb327, 1, none⟩ (.int .i64 t323)).setCell ⟨gb327, 2, none⟩ (.int .i64 t324)).setCell ⟨gb327, 3, none⟩ (.int .i64 t325)).heap[gb321]? = some (.cells #[.int .u64 t316, .int .i64 t317, .int .i64 t318, .int .i64 t319] 24 (0, 0))) := ⟨by refine blk_far ?_ NB321_327.out _; refine blk_far ?_ NB321_327.out _; refine blk_far ?_ NB321_327.out _; refine blk_far ?_ NB321_327.out _; exact BK321.out⟩
     have n1_ : Aside0 (((((w21.setCell ⟨gb327, 0, none⟩ (.int .u64 t322)).setCell ⟨gb327, 1, none⟩ (.int .i64 t323)).setCell ⟨gb327, 2, none⟩ (.int .i64 t324)).setCell ⟨gb327, 3, none⟩ (.int .i64 t325)).heap[gb327]? = some (.cells #[.int .u64 t322, .int .i64 t323, .int .i64 t324, .int .i64 t325] 31 (0, 0))) := ⟨by refine blk_put (cs := #[.int .u64 t322, .int .i64 t323, .int .i64 t324, .int .i64 0]) ?_ 3 _ rfl; refine blk_put (cs := #[.int .u64 t322, .int .i64 t323, .int .i64 0, .int .i64 0]) ?_ 2 _ rfl; refine blk_put (cs := #[.int .u64 t322, .int .i64 0, .int .i64 0, .int .i64 0]) ?_ 1 _ rfl; refine blk_put (cs := #[.int .u64 0, .int .i64 0, .int .i64 0, .int .i64 0]) ?_ 0 _ rfl; exact BK327.out⟩
     have n2_ : Aside0 (Below w.heap.size w ((((w21.setCell ⟨gb327, 0, none⟩ (.int .u64 t322)).setCell ⟨gb327, 1, none⟩ (.int .i64 t323)).setCell ⟨gb327, 2, none⟩ (.int .i64 t324)).setCell ⟨gb327, 3, none⟩ (.int .i64 t325))) := ⟨by repeat (first | (with_reducible first | exact HB.out | apply Ext.ba | apply Ext.bn | apply Ext.bd | refine Ext.bs ?_ GE321.out | refine Ext.bs ?_ GE327.out) | exact HB.out | exact .refl _ _)⟩
     (try clear BK321)
     (try clear BK327)
     (try clear HB)
     generalize ((((w21.setCell ⟨gb327, 0, none⟩ (.int .u64 t322)).setCell ⟨gb327, 1, none⟩ (.int .i64 t323)).setCell ⟨gb327, 2, none⟩ (.int .i64 t324)).setCell ⟨gb327, 3, none⟩ (.int .i64 t325)) = w24 at n0_ n1_ n2_ ⊢
     have BK321 := n0_
     have BK327 := n1_
     have HB := n2_
     clear n0_ n1_ n2_
     have n0_ := Ext.a (blk_drew BK321.out)
     have n1_ := Ext.a (blk_drew BK327.out)
     have n2_ := Ext.a (below_drew1 HB.out)
     clear BK321
     clear BK327
     clear HB
     have BK321 := n0_
     have BK327 := n1_
     have HB := n2_
     clear n0_ n1_ n2_
     refine start_ (n := 10) (S := fun w' => w'.cell? ⟨gb321, 0, none⟩ = some (.int .u64 t316) ∧ w'.cell? ⟨gb321, 1, none⟩ = some (.int .i64 t317) ∧ w'.cell? ⟨gb321, 2, none⟩ = some (.int .i64 t318) ∧ w'.cell? ⟨gb321, 3, none⟩ = some (.int .i64 t319) ∧ w'.cell? ⟨gb327, 0, none⟩ = some (.int .u64 t322) ∧ w'.cell? ⟨gb327, 1, none⟩ = some (.int .i64 t323) ∧ w'.cell? ⟨gb327, 2, none⟩ = some (.int .i64 t324) ∧ w'.cell? ⟨gb327, 3, none⟩ = some (.int .i64 t325)) (ds := []) #[false, false, false, false, false, false, false, false, false, false] (by kernel_rfl) rfl rfl ⟨(blk_cell BK321.out 0).trans rfl, (blk_cell BK321.out 1).trans rfl, (blk_cell BK321.out 2).trans rfl, (blk_cell BK321.out 3).trans rfl, (blk_cell BK327.out 0).trans rfl, (blk_cell BK327.out 1).trans rfl, (blk_cell BK327.out 2).trans rfl, (blk_cell BK327.out 3).trans rfl⟩ (fun hHeld => ?_); refine with_tabW terrierlaw05_MetaChooses.tab5 terrierlaw05_MetaChooses.bits5 (fun HT_ HW_ => ?_)
     generalize w24.drew = w25 at BK321 BK327 HB hHeld ⊢
     refine take_ (i := 0) (N := some 34) (v := ?_) (a' := ?_) #[true, false, false, false, false, false, false, false, false, false] rfl rfl (take_ofW HT_.out HW_.out (by kernel_rfl)) (fun _ _ _ h => h) (Or.inl ⟨by rfl, ?_⟩) hHeld ?_ ?_
     rotate_left
     · rintro w' ⟨s0, s1, s2, s3, s4, s5, s6, s7⟩; go_simp; with_reducible rfl
     rotate_left
     · simp only [Act.put, Ext.sb, Ext.sz, Ext.ss, i64_w, i32_w]; rfl
     refine take_ (i := 2) (N := some 36) (v := ?_) (a' := ?_) #[true, false, true, false, false, false, false, false, false, false] rfl rfl (take_ofW HT_.out HW_.out (by kernel_rfl)) (fun _ _ _ h => h) (Or.inl ⟨by rfl, ?_⟩) hHeld ?_ ?_
     rotate_left
     · rintro w' ⟨s0, s1, s2, s3, s4, s5, s6, s7⟩; go_simp; with_reducible rfl
     rotate_left
     · simp only [Act.put, Ext.sb, Ext.sz, Ext.ss, i64_w, i32_w]; rfl
     refine one_ (i := 1) (N := some 35) #[true, true, true, false, false, false, false, false, false, false] rfl rfl (one_of HT_.out (by kernel_rfl)) (by decide) (fun K hK => ?_)
     refine goes_ Try.func12 (by kernel_rfl) rfl #[.agg #[.int .u64 t316, .int .i64 t317, .int .i64 t318, .int .i64 t319]] (by rfl) rfl rfl (by (try simp only [List.map_toArray, List.map_cons, List.map_nil]); first | done | rfl | (simp only [List.length_drop, List.length_take]; rfl)) ?_
     with_reducible refine (terrierlaw05_of.calls t316 t317 t318 t319 t328 t329 t330 t331 _ A15.out).mono ?_
     rintro e w26 ⟨rfl, hb⟩
     refine ⟨_, rfl, ?_⟩
     have n0_ := Ext.a (blk_below BK321.out hb)
     have n1_ := Ext.a (blk_below BK327.out hb)
     have n2_ := Ext.a (below_step (by repeat (first | (with_reducible first | exact HB.out | apply Ext.ba | apply Ext.bn | apply Ext.bd | refine Ext.bs ?_ GE321.out | refine Ext.bs ?_ GE327.out) | exact HB.out | exact .refl _ _)) hb)
     clear BK321
     clear BK327
     clear HB
     have BK321 := n0_
     have BK327 := n1_
     have HB := n2_
     clear n0_ n1_ n2_
     (try clear hb)
     (try clear hb2)
     (try clear hk)
     (try clear hi)
     refine hK.out _ _ ⟨(blk_cell BK321.out 0).trans rfl, (blk_cell BK321.out 1).trans rfl, (blk_cell BK321.out 2).trans rfl, (blk_cell BK321.out 3).trans rfl, (blk_cell BK327.out 0).trans rfl, (blk_cell BK327.out 1).trans rfl, (blk_cell BK327.out 2).trans rfl, (blk_cell BK327.out 3).trans rfl⟩ (fun hHeld => ?_)
     clear hK K
     refine norm_ (a' := ?_) ?_ ?_
     rotate_left
     · show Act.put _ (some 35) _ = _; simp only [Act.put, Ext.sb, Ext.sz, Ext.ss, i64_w, i32_w]; rfl
     refine pure_ (i := 3) (N := some 37) (v := ?_) (a' := ?_) #[true, true, true, true, false, false, false, false, false, false] rfl rfl (any_of HT_.out (by kernel_rfl)) (fun _ _ _ h => h) (Or.inl ⟨by rfl, ?_⟩) ?_ ?_
     rotate_left
     · intro w'; go_simp; with_reducible rfl
     rotate_left
     · simp only [Act.put, Ext.sb, Ext.sz, Ext.ss, i64_w, i32_w]; rfl
     refine pure_ (i := 4) (N := some 38) (v := ?_) (a' := ?_) #[true, true, true, true, true, false, false, false, false, false] rfl rfl (any_of HT_.out (by kernel_rfl)) (fun _ _ _ h => h) (Or.inl ⟨by rfl, ?_⟩) ?_ ?_
     rotate_left
     · intro w'; go_simp; with_reducible rfl
     rotate_left
     · simp only [Act.put, Ext.sb, Ext.sz, Ext.ss, i64_w, i32_w]; rfl
     refine pure_ (i := 5) (N := some 39) (v := ?_) (a' := ?_) #[true, true, true, true, true, true, false, false, false, false] rfl rfl (any_of HT_.out (by kernel_rfl)) (fun _ _ _ h => h) (Or.inl ⟨by rfl, ?_⟩) ?_ ?_
     rotate_left
     · intro w'; go_simp; with_reducible rfl
     rotate_left
     · simp only [Act.put, Ext.sb, Ext.sz, Ext.ss, i64_w, i32_w]; rfl
     refine pure_ (i := 6) (N := some 40) (v := ?_) (a' := ?_) #[true, true, true, true, true, true, true, false, false, false] rfl rfl (any_of HT_.out (by kernel_rfl)) (fun _ _ _ h => h) (Or.inl ⟨by rfl, ?_⟩) ?_ ?_
     rotate_left
     · intro w'; go_simp; with_reducible rfl
     rotate_left
     · simp only [Act.put, Ext.sb, Ext.sz, Ext.ss, i64_w, i32_w]; rfl
     refine pure_ (i := 7) (N := some 41) (v := ?_) (a' := ?_) #[true, true, true, true, true, true, true, true, false, false] rfl rfl (any_of HT_.out (by kernel_rfl)) (fun _ _ _ h => h) (Or.inl ⟨by rfl, ?_⟩) ?_ ?_
     rotate_left
     · intro w'; go_simp; with_reducible rfl
     rotate_left
     · simp only [Act.put, Ext.sb, Ext.sz, Ext.ss, i64_w, i32_w]; rfl
     refine pure_ (i := 8) (N := some 42) (v := ?_) (a' := ?_) #[true, true, true, true, true, true, true, true, true, false] rfl rfl (any_of HT_.out (by kernel_rfl)) (fun _ _ _ h => h) (Or.inl ⟨by rfl, ?_⟩) ?_ ?_
     rotate_left
     · intro w'; go_simp; with_reducible rfl
     rotate_left
     · simp only [Act.put, Ext.sb, Ext.sz, Ext.ss, i64_w, i32_w]; rfl
     refine pure_ (i := 9) (N := some 4) (v := ?_) (a' := ?_) #[true, true, true, true, true, true, true, true, true, true] rfl rfl (any_of HT_.out (by kernel_rfl)) (fun _ _ _ h => h) (Or.inl ⟨by rfl, ?_⟩) ?_ ?_
     rotate_left
     · intro w'; go_simp; with_reducible rfl
     rotate_left
     · simp only [Act.put, Ext.sb, Ext.sz, Ext.ss, i64_w, i32_w]; rfl
     refine done_ (done_of HT_.out (by kernel_rfl)) ?_
     try go_wp2
     go_ret
     exact ⟨by first | rfl | (simp [errW_none, errW_some] <;> rfl) | (simp [*, errW_none, errW_some] <;> rfl), by repeat (first | (with_reducible first | exact HB.out | apply Ext.ba | apply Ext.bn | apply Ext.bd | refine Ext.bs ?_ GE321.out | refine Ext.bs ?_ GE327.out) | exact HB.out | exact .refl _ _)⟩
    ·
     rw [if_neg c16] at H
     have c16b0 : (t328 == t322 && (t329 == t323 && (t330 == t324 && (t331 == t325)))) = false := by simpa using c16
     (try (have c16b1 : decide (t328 = t322 && (t329 == t323 && (t330 == t324 && (t331 == t325)))) = false := by simpa using c16))
     (try (have c16b2 : (t328 == t322 && (t329 == t323 && (t330 == t324 && (t331 == t325)))) = false := by simpa using c16))
     (try (have c16b3 : ¬ (t328 = t322 && (t329 == t323 && (t330 == t324 && (t331 == t325)))) := by simpa using c16))
     clear c16
     obtain rfl := Option.some.inj H
     try go_wp2_with (first | ((with_reducible refine gate_callee (f := 20) rfl ?_); refine goesL_ (some 25) rfl rfl Try.func20 (by kernel_rfl) rfl #[.slice A0 l0.length c0, .slice A1 l1.length c1] rfl (by (try simp only [List.map_toArray, List.map_cons, List.map_nil]); first | done | rfl | (simp only [List.length_drop, List.length_take]; rfl)) ?_; (with_reducible refine (meta_Choose.calls kj2 (fun k_ => k_ < w.heap.size) _ _ l0 (fun k_ => k_ < w.heap.size) _ _ l1 t316 t317 t318 t319 t320 _ ?side1 ?side2 A13.out).mono ?_); (case side1 => exact Kd.V_mk HC0.out (Kd.F_below (Kd.C_F (Kd.heap_int .u8) HR0.out) (Ext.nB HB.out))); (case side2 => exact Kd.V_mk HC1.out (Kd.F_below (Kd.C_F (Kd.heap_int .u8) HR1.out) (Ext.nB HB.out))); rintro e w27 ⟨rfl, hb⟩; refine ⟨_, rfl, ?_⟩; have n0_ := Ext.a (below_step (Ext.nB HB.out) hb); clear HB; have HB := n0_; clear n0_; (try clear hb); (try clear hb2); (try clear hk); (try clear hi)) | ((with_reducible refine gate_dst (N := 5) rfl ?_); (try (refine gate_guard (by rfl) ?_; dsimp only)); refine box_event ?hg (N := 5) ?hd (cs := #[.int .u64 0, .int .i64 0, .int .i64 0, .int .i64 0]) (t := 24) ?hr ?_; (case hd => rfl); (case hg => rfl); (case hr => first | (go_simp; done) | (go_simp; rfl)); intro gb321 hg w28 hbox hb; have n0_ := Ext.a (below_step (Ext.nB HB.out) hb); have n1_ := Ext.a (hbox); have n2_ := Ext.a ((by rw [hg]; exact (below_size (Ext.nB HB.out)) : w.heap.size ≤ gb321)); have n3_ := Ext.a ((by rw [hg]; exact (below_size (Ext.nB HB.out)) : w.heap.size ≤ gb321)); clear HB; have HB := n0_; have BK321 := n1_; have GW321 := n2_; have GE321 := n3_; clear n0_ n1_ n2_ n3_; clear hb hbox hg; obtain ⟨hcz29_0, hcz29_1, hcz29_2, hcz29_3⟩ := Ext.cells4 BK321.out; obtain ⟨hfz29_0, hfz29_1, hfz29_2, hfz29_3⟩ := Ext.froz4 BK321.out) | ((with_reducible refine gate_callee (f := 21) rfl ?_); refine goesL_ (some 31) rfl rfl Try.func21 (by kernel_rfl) rfl #[.slice A0 l0.length c0, .slice A1 l1.length c1] rfl (by (try simp only [List.map_toArray, List.map_cons, List.map_nil]); first | done | rfl | (simp only [List.length_drop, List.length_take]; rfl)) ?_; (with_reducible refine (terrierref05_Choose.calls kj2 _ _ l0 _ _ l1 t322 t323 t324 t325 t326 _ ?side1 ?side2 ?side3 ?side4 A14.out).mono ?_); (case side1 => exact Kd.C_below HR0.out (by repeat (first | (with_reducible first | exact HB.out | apply Ext.ba | apply Ext.bn | apply Ext.bd | refine Ext.bs ?_ GE321.out) | exact HB.out | exact .refl _ _))); (case side2 => exact HC0.out); (case side3 => exact Kd.C_below HR1.out (by repeat (first | (with_reducible first | exact HB.out | apply Ext.ba | apply Ext.bn | apply Ext.bd | refine Ext.bs ?_ GE321.out) | exact HB.out | exact .refl _ _))); (case side4 => exact HC1.out); rintro e w30 ⟨rfl, hb⟩; refine ⟨_, rfl, ?_⟩; have n0_ := Ext.a (blk_below (g := gb321) (o := .cells #[.int .u64 t316, .int .i64 t317, .int .i64 t318, .int .i64 t319] 24 (0, 0)) (by exact Ext.puts4 BK321.out) hb); have n1_ := Ext.a (below_step (by repeat (first | (with_reducible first | exact HB.out | apply Ext.ba | apply Ext.bn | apply Ext.bd | refine Ext.bs ?_ GE321.out) | exact HB.out | exact .refl _ _)) hb); clear BK321 HB; have BK321 := n0_; have HB := n1_; clear n0_ n1_; (try clear hb); (try clear hb2); (try clear hk); (try clear hi)) | ((with_reducible refine gate_dst (N := 7) rfl ?_); (try (refine gate_guard (by rfl) ?_; dsimp only)); refine box_event ?hg (N := 7) ?hd (cs := #[.int .u64 0, .int .i64 0, .int .i64 0, .int .i64 0]) (t := 31) ?hr ?_; (case hd => rfl); (case hg => rfl); (case hr => first | (go_simp; done) | (go_simp; rfl)); intro gb327 hg w31 hbox hb; have n0_ := Ext.a (blk_below BK321.out hb); have n1_ := Ext.a (below_step (by repeat (first | (with_reducible first | exact HB.out | apply Ext.ba | apply Ext.bn | apply Ext.bd | refine Ext.bs ?_ GE321.out) | exact HB.out | exact .refl _ _)) hb); have n2_ := Ext.a (hbox); have n3_ := Ext.a ((by rw [hg]; exact (below_size (by repeat (first | (with_reducible first | exact HB.out | apply Ext.ba | apply Ext.bn | apply Ext.bd | refine Ext.bs ?_ GE321.out) | exact HB.out | exact .refl _ _))) : w.heap.size ≤ gb327)); have n4_ := Ext.a ((by rw [hg]; exact (below_size (by repeat (first | (with_reducible first | exact HB.out | apply Ext.ba | apply Ext.bn | apply Ext.bd | refine Ext.bs ?_ GE321.out) | exact HB.out | exact .refl _ _))) : w.heap.size ≤ gb327)); have n5_ := Ext.a ((by rw [hg]; exact Nat.ne_of_lt (blk_lt BK321.out) : gb321 ≠ gb327)); have n6_ := Ext.a ((by rw [hg]; exact Nat.ne_of_gt (blk_lt BK321.out) : gb327 ≠ gb321)); clear BK321 HB; have BK321 := n0_; have HB := n1_; have BK327 := n2_; have GW327 := n3_; have GE327 := n4_; have NB321_327 := n5_; have NB327_321 := n6_; clear n0_ n1_ n2_ n3_ n4_ n5_ n6_; clear hb hbox hg; have hnb32 := NB327_321.out; have hnc32 := NB321_327.out; obtain ⟨hcz33_0, hcz33_1, hcz33_2, hcz33_3⟩ := Ext.cells4 BK327.out; obtain ⟨hfz33_0, hfz33_1, hfz33_2, hfz33_3⟩ := Ext.froz4 BK327.out))
     have n0_ : Aside0 (((((w31.setCell ⟨gb327, 0, none⟩ (.int .u64 t322)).setCell ⟨gb327, 1, none⟩ (.int .i64 t323)).setCell ⟨gb327, 2, none⟩ (.int .i64 t324)).setCell ⟨gb327, 3, none⟩ (.int .i64 t325)).heap[gb321]? = some (.cells #[.int .u64 t316, .int .i64 t317, .int .i64 t318, .int .i64 t319] 24 (0, 0))) := ⟨by refine blk_far ?_ NB321_327.out _; refine blk_far ?_ NB321_327.out _; refine blk_far ?_ NB321_327.out _; refine blk_far ?_ NB321_327.out _; exact BK321.out⟩
     have n1_ : Aside0 (((((w31.setCell ⟨gb327, 0, none⟩ (.int .u64 t322)).setCell ⟨gb327, 1, none⟩ (.int .i64 t323)).setCell ⟨gb327, 2, none⟩ (.int .i64 t324)).setCell ⟨gb327, 3, none⟩ (.int .i64 t325)).heap[gb327]? = some (.cells #[.int .u64 t322, .int .i64 t323, .int .i64 t324, .int .i64 t325] 31 (0, 0))) := ⟨by refine blk_put (cs := #[.int .u64 t322, .int .i64 t323, .int .i64 t324, .int .i64 0]) ?_ 3 _ rfl; refine blk_put (cs := #[.int .u64 t322, .int .i64 t323, .int .i64 0, .int .i64 0]) ?_ 2 _ rfl; refine blk_put (cs := #[.int .u64 t322, .int .i64 0, .int .i64 0, .int .i64 0]) ?_ 1 _ rfl; refine blk_put (cs := #[.int .u64 0, .int .i64 0, .int .i64 0, .int .i64 0]) ?_ 0 _ rfl; exact BK327.out⟩
     have n2_ : Aside0 (Below w.heap.size w ((((w31.setCell ⟨gb327, 0, none⟩ (.int .u64 t322)).setCell ⟨gb327, 1, none⟩ (.int .i64 t323)).setCell ⟨gb327, 2, none⟩ (.int .i64 t324)).setCell ⟨gb327, 3, none⟩ (.int .i64 t325))) := ⟨by repeat (first | (with_reducible first | exact HB.out | apply Ext.ba | apply Ext.bn | apply Ext.bd | refine Ext.bs ?_ GE321.out | refine Ext.bs ?_ GE327.out) | exact HB.out | exact .refl _ _)⟩
     (try clear BK321)
     (try clear BK327)
     (try clear HB)
     generalize ((((w31.setCell ⟨gb327, 0, none⟩ (.int .u64 t322)).setCell ⟨gb327, 1, none⟩ (.int .i64 t323)).setCell ⟨gb327, 2, none⟩ (.int .i64 t324)).setCell ⟨gb327, 3, none⟩ (.int .i64 t325)) = w34 at n0_ n1_ n2_ ⊢
     have BK321 := n0_
     have BK327 := n1_
     have HB := n2_
     clear n0_ n1_ n2_
     have n0_ := Ext.a (blk_drew BK321.out)
     have n1_ := Ext.a (blk_drew BK327.out)
     have n2_ := Ext.a (below_drew1 HB.out)
     clear BK321
     clear BK327
     clear HB
     have BK321 := n0_
     have BK327 := n1_
     have HB := n2_
     clear n0_ n1_ n2_
     refine start_ (n := 10) (S := fun w' => w'.cell? ⟨gb321, 0, none⟩ = some (.int .u64 t316) ∧ w'.cell? ⟨gb321, 1, none⟩ = some (.int .i64 t317) ∧ w'.cell? ⟨gb321, 2, none⟩ = some (.int .i64 t318) ∧ w'.cell? ⟨gb321, 3, none⟩ = some (.int .i64 t319) ∧ w'.cell? ⟨gb327, 0, none⟩ = some (.int .u64 t322) ∧ w'.cell? ⟨gb327, 1, none⟩ = some (.int .i64 t323) ∧ w'.cell? ⟨gb327, 2, none⟩ = some (.int .i64 t324) ∧ w'.cell? ⟨gb327, 3, none⟩ = some (.int .i64 t325)) (ds := []) #[false, false, false, false, false, false, false, false, false, false] (by kernel_rfl) rfl rfl ⟨(blk_cell BK321.out 0).trans rfl, (blk_cell BK321.out 1).trans rfl, (blk_cell BK321.out 2).trans rfl, (blk_cell BK321.out 3).trans rfl, (blk_cell BK327.out 0).trans rfl, (blk_cell BK327.out 1).trans rfl, (blk_cell BK327.out 2).trans rfl, (blk_cell BK327.out 3).trans rfl⟩ (fun hHeld => ?_); refine with_tabW terrierlaw05_MetaChooses.tab5 terrierlaw05_MetaChooses.bits5 (fun HT_ HW_ => ?_)
     generalize w34.drew = w35 at BK321 BK327 HB hHeld ⊢
     refine take_ (i := 0) (N := some 34) (v := ?_) (a' := ?_) #[true, false, false, false, false, false, false, false, false, false] rfl rfl (take_ofW HT_.out HW_.out (by kernel_rfl)) (fun _ _ _ h => h) (Or.inl ⟨by rfl, ?_⟩) hHeld ?_ ?_
     rotate_left
     · rintro w' ⟨s0, s1, s2, s3, s4, s5, s6, s7⟩; go_simp; with_reducible rfl
     rotate_left
     · simp only [Act.put, Ext.sb, Ext.sz, Ext.ss, i64_w, i32_w]; rfl
     refine take_ (i := 2) (N := some 36) (v := ?_) (a' := ?_) #[true, false, true, false, false, false, false, false, false, false] rfl rfl (take_ofW HT_.out HW_.out (by kernel_rfl)) (fun _ _ _ h => h) (Or.inl ⟨by rfl, ?_⟩) hHeld ?_ ?_
     rotate_left
     · rintro w' ⟨s0, s1, s2, s3, s4, s5, s6, s7⟩; go_simp; with_reducible rfl
     rotate_left
     · simp only [Act.put, Ext.sb, Ext.sz, Ext.ss, i64_w, i32_w]; rfl
     refine one_ (i := 1) (N := some 35) #[true, true, true, false, false, false, false, false, false, false] rfl rfl (one_of HT_.out (by kernel_rfl)) (by decide) (fun K hK => ?_)
     refine goes_ Try.func12 (by kernel_rfl) rfl #[.agg #[.int .u64 t316, .int .i64 t317, .int .i64 t318, .int .i64 t319]] (by rfl) rfl rfl (by (try simp only [List.map_toArray, List.map_cons, List.map_nil]); first | done | rfl | (simp only [List.length_drop, List.length_take]; rfl)) ?_
     with_reducible refine (terrierlaw05_of.calls t316 t317 t318 t319 t328 t329 t330 t331 _ A15.out).mono ?_
     rintro e w36 ⟨rfl, hb⟩
     refine ⟨_, rfl, ?_⟩
     have n0_ := Ext.a (blk_below BK321.out hb)
     have n1_ := Ext.a (blk_below BK327.out hb)
     have n2_ := Ext.a (below_step (by repeat (first | (with_reducible first | exact HB.out | apply Ext.ba | apply Ext.bn | apply Ext.bd | refine Ext.bs ?_ GE321.out | refine Ext.bs ?_ GE327.out) | exact HB.out | exact .refl _ _)) hb)
     clear BK321
     clear BK327
     clear HB
     have BK321 := n0_
     have BK327 := n1_
     have HB := n2_
     clear n0_ n1_ n2_
     (try clear hb)
     (try clear hb2)
     (try clear hk)
     (try clear hi)
     refine hK.out _ _ ⟨(blk_cell BK321.out 0).trans rfl, (blk_cell BK321.out 1).trans rfl, (blk_cell BK321.out 2).trans rfl, (blk_cell BK321.out 3).trans rfl, (blk_cell BK327.out 0).trans rfl, (blk_cell BK327.out 1).trans rfl, (blk_cell BK327.out 2).trans rfl, (blk_cell BK327.out 3).trans rfl⟩ (fun hHeld => ?_)
     clear hK K
     refine norm_ (a' := ?_) ?_ ?_
     rotate_left
     · show Act.put _ (some 35) _ = _; simp only [Act.put, Ext.sb, Ext.sz, Ext.ss, i64_w, i32_w]; rfl
     refine pure_ (i := 3) (N := some 37) (v := ?_) (a' := ?_) #[true, true, true, true, false, false, false, false, false, false] rfl rfl (any_of HT_.out (by kernel_rfl)) (fun _ _ _ h => h) (Or.inl ⟨by rfl, ?_⟩) ?_ ?_
     rotate_left
     · intro w'; go_simp; with_reducible rfl
     rotate_left
     · simp only [Act.put, Ext.sb, Ext.sz, Ext.ss, i64_w, i32_w]; rfl
     refine pure_ (i := 4) (N := some 38) (v := ?_) (a' := ?_) #[true, true, true, true, true, false, false, false, false, false] rfl rfl (any_of HT_.out (by kernel_rfl)) (fun _ _ _ h => h) (Or.inl ⟨by rfl, ?_⟩) ?_ ?_
     rotate_left
     · intro w'; go_simp; with_reducible rfl
     rotate_left
     · simp only [Act.put, Ext.sb, Ext.sz, Ext.ss, i64_w, i32_w]; rfl
     refine pure_ (i := 5) (N := some 39) (v := undef) (a' := ?_) #[true, true, true, true, true, true, false, false, false, false] rfl rfl (any_of HT_.out (by kernel_rfl)) (fun _ _ _ h => h) (Or.inr ⟨by rfl, rfl⟩) ?_ ?_
     rotate_left
     · simp only [Act.put, Ext.sb, Ext.sz, Ext.ss, i64_w, i32_w]; rfl
     refine pure_ (i := 6) (N := some 40) (v := undef) (a' := ?_) #[true, true, true, true, true, true, true, false, false, false] rfl rfl (any_of HT_.out (by kernel_rfl)) (fun _ _ _ h => h) (Or.inr ⟨by rfl, rfl⟩) ?_ ?_
     rotate_left
     · simp only [Act.put, Ext.sb, Ext.sz, Ext.ss, i64_w, i32_w]; rfl
     refine pure_ (i := 7) (N := some 41) (v := undef) (a' := ?_) #[true, true, true, true, true, true, true, true, false, false] rfl rfl (any_of HT_.out (by kernel_rfl)) (fun _ _ _ h => h) (Or.inr ⟨by rfl, rfl⟩) ?_ ?_
     rotate_left
     · simp only [Act.put, Ext.sb, Ext.sz, Ext.ss, i64_w, i32_w]; rfl
     refine pure_ (i := 8) (N := some 42) (v := ?_) (a' := ?_) #[true, true, true, true, true, true, true, true, true, false] rfl rfl (any_of HT_.out (by kernel_rfl)) (fun _ _ _ h => h) (Or.inl ⟨by rfl, ?_⟩) ?_ ?_
     rotate_left
     · intro w'; go_simp; with_reducible rfl
     rotate_left
     · simp only [Act.put, Ext.sb, Ext.sz, Ext.ss, i64_w, i32_w]; rfl
     refine pure_ (i := 9) (N := some 4) (v := ?_) (a' := ?_) #[true, true, true, true, true, true, true, true, true, true] rfl rfl (any_of HT_.out (by kernel_rfl)) (fun _ _ _ h => h) (Or.inl ⟨by rfl, ?_⟩) ?_ ?_
     rotate_left
     · intro w'; go_simp; with_reducible rfl
     rotate_left
     · simp only [Act.put, Ext.sb, Ext.sz, Ext.ss, i64_w, i32_w]; rfl
     refine done_ (done_of HT_.out (by kernel_rfl)) ?_
     try go_wp2
     go_ret
     exact ⟨by first | rfl | (simp [errW_none, errW_some] <;> rfl) | (simp [*, errW_none, errW_some] <;> rfl), by repeat (first | (with_reducible first | exact HB.out | apply Ext.ba | apply Ext.bn | apply Ext.bd | refine Ext.bs ?_ GE321.out | refine Ext.bs ?_ GE327.out) | exact HB.out | exact .refl _ _)⟩

/-- THE ONE PURE STATEMENT of terrierlaw05_MetaChooses: yours. -/
def terrierlaw05_MetaChooses.Pure : Prop := ∀ (l0 : List Int) (l1 : List Int), l0.length ≤ maxLen → l0.length * 1 ≤ 140737488351232 → (∀ x ∈ l0, (Lit.int .u8 x).wf = true) → l1.length ≤ maxLen → l1.length * 1 ≤ 140737488351232 → (∀ x ∈ l1, (Lit.int .u8 x).wf = true) → ∃ k, terrierlaw05_MetaChooses.f k l0 l1 = some true
theorem terrierlaw05_MetaChooses.walk (P : terrierlaw05_MetaChooses.Pure) (a0 : Option Addr) (len0 cap0 : Nat) (z0 : List Int) (a1 : Option Addr) (len1 cap1 : Nat) (z1 : List Int) (w : World) (w0 : (a0 = none ∧ len0 = 0 ∧ cap0 = 0 ∧ z0 = []) ∨ ∃ x, a0 = some x ∧ len0 ≤ cap0 ∧ cap0 ≤ maxLen ∧ z0.length = cap0 ∧ (∀ i, i < z0.length → w.cell? (x.add i) = some (.int .u8 (z0.getD i 0))) ∧ ∀ n ∈ z0, (Lit.int .u8 n).wf = true) (y0 : len0 * 1 ≤ 140737488351232) (w1 : (a1 = none ∧ len1 = 0 ∧ cap1 = 0 ∧ z1 = []) ∨ ∃ x, a1 = some x ∧ len1 ≤ cap1 ∧ cap1 ≤ maxLen ∧ z1.length = cap1 ∧ (∀ i, i < z1.length → w.cell? (x.add i) = some (.int .u8 (z1.getD i 0))) ∧ ∀ n ∈ z1, (Lit.int .u8 n).wf = true) (y1 : len1 * 1 ≤ 140737488351232) :
  Calls Try.prog 6 #[.slice a0 len0 cap0, .slice a1 len1 cap1] w fun e w' => e = .returned (.bool true) ∧ Below w.heap.size w w' := by
 obtain ⟨l0, rfl, hr0, hm0, hw0, hc0⟩ := ReadsInt.ofRowC w0
 obtain ⟨l1, rfl, hr1, hm1, hw1, hc1⟩ := ReadsInt.ofRowC w1
 obtain ⟨k, h⟩ := P l0 l1 hm0 y0 hw0 hm1 y1 hw1
 refine (terrierlaw05_MetaChooses.calls k _ _ l0 _ _ l1 true w (Kd.C_of_reads (d := (0 : Int)) (h1 := fun _ => rfl) hr0) hc0 (Kd.C_of_reads (d := (0 : Int)) (h1 := fun _ => rfl) hr1) hc1 h).mono ?_
 rintro e w' ⟨rfl, hd⟩
 exact ⟨rfl, hd⟩

end Go.Proofs.Ytfkihcdonddcoaa.PC
