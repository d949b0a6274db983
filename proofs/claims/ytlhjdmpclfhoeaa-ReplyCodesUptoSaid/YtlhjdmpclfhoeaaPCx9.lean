-- Written by wip/printx.py, a program of this work over the kit's print, for this claim.
import Derived.Test.YtlhjdmpclfhoeaaPCx0
import Derived.Test.YtlhjdmpclfhoeaaPCx8
namespace Go.Proofs.Ytlhjdmpclfhoeaa.PC
open Go.RowKit Go.Proofs.YtlhjdmpclfhoeaaW.PrintWords Go.Proofs.YtlhjdmpclfhoeaaW.PrintLast Go.Proofs.YtlhjdmpclfhoeaaW.PrintMore
attribute [local go_sem] max2_int min2_int max_two min_two max_three min_three max_four min_four   -- for this text's walks alone
attribute [local go_sem] Ext.pick_u8 Ext.pick_u32 Ext.pick_u64
set_option linter.unusedVariables false
set_option linter.unusedSimpArgs false

@[reducible] def zb9_0 : Array Bool := #[false, false, false, false, false, false, false, false, false, false, false]
@[reducible] def zb9_1 : Array Bool := #[true, false, false, false, false, false, false, false, false, false, false]

/-! ### terrierlaw20_few: function 9 -/
mutual
def terrierlaw20_few.j0 : Nat → Int → Bool → Int → Int → Int → Int → List (S79) → Int → Bool → List (S79) → Int → Bool → List (S27) → Int → Int → Int → List Int → List (List Int) → Int → Int → Option (Bool)
 | 0, _, _, _, _, _, _, _, _, _, _, _, _, _, _, _, _, _, _, _, _ => none
 | k + 1, x3, x33, x272000, x272001, x272002, x272003, x272004, x272005, x272006, x272007, x272008, x272009, x272010, x272011, x272012, x272013, x272014, x272015, x272016, x272017 => if x33 = true then (some false) else (terrierlaw20_few.l0 k x3 x272010 (x272010.length : Int) 0 x272000 x272001 x272002 x272003 x272004 x272005 x272006 x272007 x272008 x272009 x272010 x272011 x272012 x272013 x272014 x272015 x272016 x272017)
def terrierlaw20_few.l0 : Nat → Int → List (S27) → Int → Int → Int → Int → Int → Int → List (S79) → Int → Bool → List (S79) → Int → Bool → List (S27) → Int → Int → Int → List Int → List (List Int) → Int → Int → Option (Bool)
 | 0, _, _, _, _, _, _, _, _, _, _, _, _, _, _, _, _, _, _, _, _, _, _ => none
 | k + 1, x3, x35, x36, x37, x272000, x272001, x272002, x272003, x272004, x272005, x272006, x272007, x272008, x272009, x272010, x272011, x272012, x272013, x272014, x272015, x272016, x272017 => if x37 < x36 then (if 0 ≤ x37 then (if x37 < (x35.length : Int) then ((terrierlaw20_kvs.f k ((rd_T27 x35 x37).f1.f0)).bind fun t276 => ((terrierlaw20_kvs.f k ((rd_T27 x35 x37).f2)).bind fun t277 => (terrierlaw20_few.l0 k (wrap64 (x3 + (wrap64 (t276 + t277)))) x35 x36 (wrap64 (x37 + 1)) x272000 x272001 x272002 x272003 x272004 x272005 x272006 x272007 x272008 x272009 x272010 x272011 x272012 x272013 x272014 x272015 x272016 x272017))) else (none)) else (none)) else (terrierlaw20_few.l1 k x3 x272015 (x272015.length : Int) 0)
def terrierlaw20_few.l1 : Nat → Int → List (List Int) → Int → Int → Option (Bool)
 | 0, _, _, _, _ => none
 | k + 1, x3, x53, x54, x55 => if x55 < x54 then (if 0 ≤ x55 then (if x55 < (x53.length : Int) then (terrierlaw20_few.l1 k (wrap64 (x3 + (mn ((rd_L1 x53 x55).length : Int) 5000))) x53 x54 (wrap64 (x55 + 1))) else (none)) else (none)) else (some (decide (x3 ≤ 7000)))
end
def terrierlaw20_few.f (k : Nat) (a0_0 : Int) (a0_1 : Int) (a0_2 : Int) (a0_3 : Int) (l0_4 : List (S79)) (a0_5 : Int) (a0_6 : Bool) (l0_7 : List (S79)) (a0_8 : Int) (a0_9 : Bool) (l0_10 : List (S27)) (a0_11 : Int) (a0_12 : Int) (a0_13 : Int) (l0_14 : List Int) (l0_15 : List (List Int)) (a0_16 : Int) (a0_17 : Int) : Option (Bool) := (terrierlaw20_kvs.f k l0_4).bind fun t272 => ((terrierlaw20_kvs.f k l0_7).bind fun t273 => (if (l0_10.length : Int) > 50 then (terrierlaw20_few.j0 k (wrap64 (t272 + t273)) true a0_0 a0_1 a0_2 a0_3 l0_4 a0_5 a0_6 l0_7 a0_8 a0_9 l0_10 a0_11 a0_12 a0_13 l0_14 l0_15 a0_16 a0_17) else (if (l0_15.length : Int) > 100 then (terrierlaw20_few.j0 k (wrap64 (t272 + t273)) true a0_0 a0_1 a0_2 a0_3 l0_4 a0_5 a0_6 l0_7 a0_8 a0_9 l0_10 a0_11 a0_12 a0_13 l0_14 l0_15 a0_16 a0_17) else (terrierlaw20_few.j0 k (wrap64 (t272 + t273)) (decide ((l0_14.length : Int) > 300)) a0_0 a0_1 a0_2 a0_3 l0_4 a0_5 a0_6 l0_7 a0_8 a0_9 l0_10 a0_11 a0_12 a0_13 l0_14 l0_15 a0_16 a0_17))))
theorem terrierlaw20_few.mono_l : ∀ k, (∀ y0 y1 y2 y3 y4 y5 y6 y7 y8 y9 y10 y11 y12 y13 y14 y15 y16 y17 y18 y19, LeO (terrierlaw20_few.j0 k y0 y1 y2 y3 y4 y5 y6 y7 y8 y9 y10 y11 y12 y13 y14 y15 y16 y17 y18 y19) (terrierlaw20_few.j0 (k + 1) y0 y1 y2 y3 y4 y5 y6 y7 y8 y9 y10 y11 y12 y13 y14 y15 y16 y17 y18 y19)) ∧ (∀ y0 y1 y2 y3 y4 y5 y6 y7 y8 y9 y10 y11 y12 y13 y14 y15 y16 y17 y18 y19 y20 y21, LeO (terrierlaw20_few.l0 k y0 y1 y2 y3 y4 y5 y6 y7 y8 y9 y10 y11 y12 y13 y14 y15 y16 y17 y18 y19 y20 y21) (terrierlaw20_few.l0 (k + 1) y0 y1 y2 y3 y4 y5 y6 y7 y8 y9 y10 y11 y12 y13 y14 y15 y16 y17 y18 y19 y20 y21)) ∧ (∀ y0 y1 y2 y3, LeO (terrierlaw20_few.l1 k y0 y1 y2 y3) (terrierlaw20_few.l1 (k + 1) y0 y1 y2 y3))
 | 0 => ⟨fun _ _ _ _ _ _ _ _ _ _ _ _ _ _ _ _ _ _ _ _ r h => by simp [terrierlaw20_few.j0] at h, fun _ _ _ _ _ _ _ _ _ _ _ _ _ _ _ _ _ _ _ _ _ _ r h => by simp [terrierlaw20_few.l0] at h, fun _ _ _ _ r h => by simp [terrierlaw20_few.l1] at h⟩
 | k + 1 => by
  obtain ⟨ih0, ih1, ih2⟩ := terrierlaw20_few.mono_l k; refine ⟨?_, ?_, ?_⟩
  ·
   intro y0 y1 y2 y3 y4 y5 y6 y7 y8 y9 y10 y11 y12 y13 y14 y15 y16 y17 y18 y19
   unfold terrierlaw20_few.j0
   repeat' first
   | (with_reducible exact ih0 _ _ _ _ _ _ _ _ _ _ _ _ _ _ _ _ _ _ _ _)
   | (with_reducible exact ih1 _ _ _ _ _ _ _ _ _ _ _ _ _ _ _ _ _ _ _ _ _ _)
   | (with_reducible exact ih2 _ _ _ _)
   | (with_reducible exact terrierlaw20_kvs.mono _ _)
   | (with_reducible exact LeO.refl _)
   | (with_reducible exact LeO.none _)
   | (with_reducible refine LeO.ite ?_ ?_)
   | (with_reducible refine LeO.bind ?_ (fun _ => ?_))
   | exact ih0 _ _ _ _ _ _ _ _ _ _ _ _ _ _ _ _ _ _ _ _
   | exact ih1 _ _ _ _ _ _ _ _ _ _ _ _ _ _ _ _ _ _ _ _ _ _
   | exact ih2 _ _ _ _
   | exact terrierlaw20_kvs.mono _ _
   | exact LeO.none _
   | refine LeO.ite ?_ ?_
   | refine LeO.bind ?_ (fun _ => ?_)
  ·
   intro y0 y1 y2 y3 y4 y5 y6 y7 y8 y9 y10 y11 y12 y13 y14 y15 y16 y17 y18 y19 y20 y21
   unfold terrierlaw20_few.l0
   repeat' first
   | (with_reducible exact ih0 _ _ _ _ _ _ _ _ _ _ _ _ _ _ _ _ _ _ _ _)
   | (with_reducible exact ih1 _ _ _ _ _ _ _ _ _ _ _ _ _ _ _ _ _ _ _ _ _ _)
   | (with_reducible exact ih2 _ _ _ _)
   | (with_reducible exact terrierlaw20_kvs.mono _ _)
   | (with_reducible exact LeO.refl _)
   | (with_reducible exact LeO.none _)
   | (with_reducible refine LeO.ite ?_ ?_)
   | (with_reducible refine LeO.bind ?_ (fun _ => ?_))
   | exact ih0 _ _ _ _ _ _ _ _ _ _ _ _ _ _ _ _ _ _ _ _
   | exact ih1 _ _ _ _ _ _ _ _ _ _ _ _ _ _ _ _ _ _ _ _ _ _
   | exact ih2 _ _ _ _
   | exact terrierlaw20_kvs.mono _ _
   | exact LeO.none _
   | refine LeO.ite ?_ ?_
   | refine LeO.bind ?_ (fun _ => ?_)
  ·
   intro y0 y1 y2 y3
   unfold terrierlaw20_few.l1
   repeat' first
   | (with_reducible exact ih0 _ _ _ _ _ _ _ _ _ _ _ _ _ _ _ _ _ _ _ _)
   | (with_reducible exact ih1 _ _ _ _ _ _ _ _ _ _ _ _ _ _ _ _ _ _ _ _ _ _)
   | (with_reducible exact ih2 _ _ _ _)
   | (with_reducible exact terrierlaw20_kvs.mono _ _)
   | (with_reducible exact LeO.refl _)
   | (with_reducible exact LeO.none _)
   | (with_reducible refine LeO.ite ?_ ?_)
   | (with_reducible refine LeO.bind ?_ (fun _ => ?_))
   | exact ih0 _ _ _ _ _ _ _ _ _ _ _ _ _ _ _ _ _ _ _ _
   | exact ih1 _ _ _ _ _ _ _ _ _ _ _ _ _ _ _ _ _ _ _ _ _ _
   | exact ih2 _ _ _ _
   | exact terrierlaw20_kvs.mono _ _
   | exact LeO.none _
   | refine LeO.ite ?_ ?_
   | refine LeO.bind ?_ (fun _ => ?_)
theorem terrierlaw20_few.mono : ∀ a0 a1 a2 a3 a4 a5 a6 a7 a8 a9 a10 a11 a12 a13 a14 a15 a16 a17 k, LeO (terrierlaw20_few.f k a0 a1 a2 a3 a4 a5 a6 a7 a8 a9 a10 a11 a12 a13 a14 a15 a16 a17) (terrierlaw20_few.f (k + 1) a0 a1 a2 a3 a4 a5 a6 a7 a8 a9 a10 a11 a12 a13 a14 a15 a16 a17) := by
 intro a0 a1 a2 a3 a4 a5 a6 a7 a8 a9 a10 a11 a12 a13 a14 a15 a16 a17 k
 obtain ⟨ih0, ih1, ih2⟩ := terrierlaw20_few.mono_l k; unfold terrierlaw20_few.f
 repeat' first
   | (with_reducible exact ih0 _ _ _ _ _ _ _ _ _ _ _ _ _ _ _ _ _ _ _ _)
   | (with_reducible exact ih1 _ _ _ _ _ _ _ _ _ _ _ _ _ _ _ _ _ _ _ _ _ _)
   | (with_reducible exact ih2 _ _ _ _)
   | (with_reducible exact terrierlaw20_kvs.mono _ _)
   | (with_reducible exact LeO.refl _)
   | (with_reducible exact LeO.none _)
   | (with_reducible refine LeO.ite ?_ ?_)
   | (with_reducible refine LeO.bind ?_ (fun _ => ?_))
   | exact ih0 _ _ _ _ _ _ _ _ _ _ _ _ _ _ _ _ _ _ _ _
   | exact ih1 _ _ _ _ _ _ _ _ _ _ _ _ _ _ _ _ _ _ _ _ _ _
   | exact ih2 _ _ _ _
   | exact terrierlaw20_kvs.mono _ _
   | exact LeO.none _
   | refine LeO.ite ?_ ?_
   | refine LeO.bind ?_ (fun _ => ?_)
def terrierlaw20_few.T1 : Bool × List (List Nat × List Nat) := (true, [([], []), ([0], [0]), ([1], [1]), ([2], [2]), ([3], [3]), ([], []), ([5], [5]), ([6], [6]), ([7, 4], [7]), ([4, 8], [4, 8]), ([9, 8, 0, 1, 2, 3, 4, 5, 6, 7, 8, 9], [9])])
def terrierlaw20_few.B1 : List Nat := [0, 1, 3, 7, 15, 0, 32, 96, 255, 511, 1023]
theorem terrierlaw20_few.tab1 : rtab .any (opsOf Try.f9 1) = terrierlaw20_few.T1 := by kernel_rfl
theorem terrierlaw20_few.bits1 : waitsOk terrierlaw20_few.T1.2 terrierlaw20_few.B1 = true := by kernel_rfl
def terrierlaw20_few.T7 : Bool × List (List Nat × List Nat) := (true, [([], []), ([], []), ([1], [1]), ([2], [2]), ([3], [3]), ([], []), ([5], [5]), ([6, 4], [6]), ([4, 7], [4, 7]), ([0, 8], [0, 8]), ([9, 7, 0, 1, 2, 3, 4, 5, 6, 7, 8, 9], [0, 9])])
def terrierlaw20_few.B7 : List Nat := [0, 0, 2, 6, 14, 0, 32, 126, 254, 511, 1023]
theorem terrierlaw20_few.tab7 : rtab .any (opsOf Try.f9 7) = terrierlaw20_few.T7 := by kernel_rfl
theorem terrierlaw20_few.bits7 : waitsOk terrierlaw20_few.T7.2 terrierlaw20_few.B7 = true := by kernel_rfl
set_option maxHeartbeats 8000000 in
set_option maxRecDepth 100000 in
theorem terrierlaw20_few.calls (k : Nat) (a0_0 : Int) (a0_1 : Int) (a0_2 : Int) (a0_3 : Int) (A0_4 : Option Addr) (c0_4 : Nat) (l0_4 : List (S79)) (a0_5 : Int) (a0_6 : Bool) (A0_7 : Option Addr) (c0_7 : Nat) (l0_7 : List (S79)) (a0_8 : Int) (a0_9 : Bool) (A0_10 : Option Addr) (c0_10 : Nat) (l0_10 : List (S27)) (a0_11 : Int) (a0_12 : Int) (a0_13 : Int) (A0_14 : Option Addr) (c0_14 : Nat) (l0_14 : List Int) (A0_15 : Option Addr) (c0_15 : Nat) (l0_15 : List (List Int)) (a0_16 : Int) (a0_17 : Int) (r : Bool) (w : World) (hr0_4 : Kd.C k79 w A0_4 l0_4.length l0_4) (hc0_4 : l0_4.length ≤ c0_4) (hr0_7 : Kd.C k79 w A0_7 l0_7.length l0_7) (hc0_7 : l0_7.length ≤ c0_7) (hr0_10 : Kd.C k27 w A0_10 l0_10.length l0_10) (hc0_10 : l0_10.length ≤ c0_10) (hr0_14 : Kd.C (Kd.int .i64) w A0_14 l0_14.length l0_14) (hc0_14 : l0_14.length ≤ c0_14) (hr0_15 : Kd.C (Kd.slice 5 (Kd.int .u8)) w A0_15 l0_15.length l0_15) (hc0_15 : l0_15.length ≤ c0_15) (h : terrierlaw20_few.f k a0_0 a0_1 a0_2 a0_3 l0_4 a0_5 a0_6 l0_7 a0_8 a0_9 l0_10 a0_11 a0_12 a0_13 l0_14 l0_15 a0_16 a0_17 = some r) :
  Calls Try.prog 9 #[.agg #[.int .i64 a0_0, .int .i64 a0_1, .int .i64 a0_2, .int .i64 a0_3, .slice A0_4 l0_4.length c0_4, .int .i64 a0_5, .bool a0_6, .slice A0_7 l0_7.length c0_7, .int .i64 a0_8, .bool a0_9, .slice A0_10 l0_10.length c0_10, .int .i64 a0_11, .int .i64 a0_12, .int .i64 a0_13, .slice A0_14 l0_14.length c0_14, .slice A0_15 l0_15.length c0_15, .int .u32 a0_16, .int .i64 a0_17]] w fun e w' => e = .returned (.bool r) ∧ Below w.heap.size w w' := by
 have hu33 := Try.underlying33; have hu27 := Try.underlying27; have HR0_4 := Aside0.mk hr0_4; have HC0_4 := Aside0.mk hc0_4; clear hr0_4 hc0_4; have HR0_7 := Aside0.mk hr0_7; have HC0_7 := Aside0.mk hc0_7; clear hr0_7 hc0_7; have HR0_10 := Aside0.mk hr0_10; have HC0_10 := Aside0.mk hc0_10; clear hr0_10 hc0_10; have HR0_14 := Aside0.mk hr0_14; have HC0_14 := Aside0.mk hc0_14; clear hr0_14 hc0_14; have HR0_15 := Aside0.mk hr0_15; have HC0_15 := Aside0.mk hc0_15; clear hr0_15 hc0_15; have HB := Ext.a (Below.refl w.heap.size w); have H := h; unfold terrierlaw20_few.f at H; clear h; replace H := Option.bind_eq_some_iff.mp H; obtain ⟨t272, A20, H⟩ := H; (try dsimp only at H); have A2 := Aside0.mk A20; clear A20; replace H := Option.bind_eq_some_iff.mp H; obtain ⟨t273, A30, H⟩ := H; (try dsimp only at H); have A3 := Aside0.mk A30; clear A30; have HC4 := Aside0.mk H; clear H
 go_enter Try.func9, Try.ntmps9
 try go_wp2_with (first | ((with_reducible refine gate_dst (N := 1) rfl ?_); (try (refine gate_guard (by rfl) ?_; dsimp only)); refine box_event ?hg (N := 1) ?hd (cs := #[.int .i64 a0_0, .int .i64 a0_1, .int .i64 a0_2, .int .i64 a0_3, .slice A0_4 l0_4.length c0_4, .int .i64 a0_5, .bool a0_6, .slice A0_7 l0_7.length c0_7, .int .i64 a0_8, .bool a0_9, .slice A0_10 l0_10.length c0_10, .int .i64 a0_11, .int .i64 a0_12, .int .i64 a0_13, .slice A0_14 l0_14.length c0_14, .slice A0_15 l0_15.length c0_15, .int .u32 a0_16, .int .i64 a0_17]) (t := 33) ?hr ?_; (case hd => rfl); (case hg => rfl); (case hr => first | (go_simp; done) | (go_simp; rfl)); intro gb271 hg w5 hbox hb; have BK271 := Ext.a (hbox); have GW271 := Ext.gw hg (below_size (Ext.nB HB.out)); have GE271 := Ext.gw hg (below_size (Ext.nB HB.out)); replace HB := Ext.a (below_step (Ext.nB HB.out) hb); clear hb hbox hg))
 replace BK271 := Ext.a (blk_drew BK271.out); replace HB := Ext.a (below_drew1 HB.out); refine start_ (n := 11) (S := fun w' => w'.cell? ⟨gb271, 0, none⟩ = some (.int .i64 a0_0) ∧ w'.cell? ⟨gb271, 1, none⟩ = some (.int .i64 a0_1) ∧ w'.cell? ⟨gb271, 2, none⟩ = some (.int .i64 a0_2) ∧ w'.cell? ⟨gb271, 3, none⟩ = some (.int .i64 a0_3) ∧ w'.cell? ⟨gb271, 4, none⟩ = some (.slice A0_4 l0_4.length c0_4) ∧ w'.cell? ⟨gb271, 5, none⟩ = some (.int .i64 a0_5) ∧ w'.cell? ⟨gb271, 6, none⟩ = some (.bool a0_6) ∧ w'.cell? ⟨gb271, 7, none⟩ = some (.slice A0_7 l0_7.length c0_7) ∧ w'.cell? ⟨gb271, 8, none⟩ = some (.int .i64 a0_8) ∧ w'.cell? ⟨gb271, 9, none⟩ = some (.bool a0_9) ∧ w'.cell? ⟨gb271, 10, none⟩ = some (.slice A0_10 l0_10.length c0_10) ∧ w'.cell? ⟨gb271, 11, none⟩ = some (.int .i64 a0_11) ∧ w'.cell? ⟨gb271, 12, none⟩ = some (.int .i64 a0_12) ∧ w'.cell? ⟨gb271, 13, none⟩ = some (.int .i64 a0_13) ∧ w'.cell? ⟨gb271, 14, none⟩ = some (.slice A0_14 l0_14.length c0_14) ∧ w'.cell? ⟨gb271, 15, none⟩ = some (.slice A0_15 l0_15.length c0_15) ∧ w'.cell? ⟨gb271, 16, none⟩ = some (.int .u32 a0_16) ∧ w'.cell? ⟨gb271, 17, none⟩ = some (.int .i64 a0_17)) (ds := []) zb9_0 (by kernel_rfl) rfl rfl (Ext.cells18 BK271.out) (fun hHeld => ?_); refine with_tabW terrierlaw20_few.tab1 terrierlaw20_few.bits1 (fun HT_ HW_ => ?_); generalize w5.drew = w6 at BK271 HB hHeld ⊢; refine pure_ (i := 0) (N := some 8) (v := ?_) (a' := ?_) zb9_1 rfl rfl (any_of HT_.out (by kernel_rfl)) (fun _ _ _ h => h) (Or.inl ⟨by rfl, ?_⟩) ?_ ?_
 rotate_left
 · intro w'; go_simp; with_reducible rfl
 rotate_left
 · simp only [Act.put, Ext.sb, Ext.sz, Ext.ss, i64_w, i32_w]; rfl
 refine pure_ (i := 1) (N := some 9) (v := ?_) (a' := ?_) #[true, true, false, false, false, false, false, false, false, false, false] rfl rfl (any_of HT_.out (by kernel_rfl)) (fun _ _ _ h => h) (Or.inl ⟨by rfl, ?_⟩) ?_ ?_; rotate_left
 · intro w'; go_simp; with_reducible rfl
 rotate_left
 · simp only [Act.put, Ext.sb, Ext.sz, Ext.ss, i64_w, i32_w]; rfl
 refine pure_ (i := 2) (N := some 10) (v := ?_) (a' := ?_) #[true, true, true, false, false, false, false, false, false, false, false] rfl rfl (any_of HT_.out (by kernel_rfl)) (fun _ _ _ h => h) (Or.inl ⟨by rfl, ?_⟩) ?_ ?_; rotate_left
 · intro w'; go_simp; with_reducible rfl
 rotate_left
 · simp only [Act.put, Ext.sb, Ext.sz, Ext.ss, i64_w, i32_w]; rfl
 refine pure_ (i := 5) (N := some 13) (v := ?_) (a' := ?_) #[true, true, true, false, false, true, false, false, false, false, false] rfl rfl (any_of HT_.out (by kernel_rfl)) (fun _ _ _ h => h) (Or.inl ⟨by rfl, ?_⟩) ?_ ?_; rotate_left
 · intro w'; go_simp; with_reducible rfl
 rotate_left
 · simp only [Act.put, Ext.sb, Ext.sz, Ext.ss, i64_w, i32_w]; rfl
 refine pure_ (i := 6) (N := some 14) (v := ?_) (a' := ?_) #[true, true, true, false, false, true, true, false, false, false, false] rfl rfl (any_of HT_.out (by kernel_rfl)) (fun _ _ _ h => h) (Or.inl ⟨by rfl, ?_⟩) ?_ ?_; rotate_left
 · intro w'; go_simp; with_reducible rfl
 rotate_left
 · simp only [Act.put, Ext.sb, Ext.sz, Ext.ss, i64_w, i32_w]; rfl
 refine take_ (i := 3) (N := some 11) (v := ?_) (a' := ?_) #[true, true, true, true, false, true, true, false, false, false, false] rfl rfl (take_ofW HT_.out HW_.out (by kernel_rfl)) (fun _ _ _ h => h) (Or.inl ⟨by rfl, ?_⟩) hHeld ?_ ?_; rotate_left
 · rintro w' ⟨s0, s1, s2, s3, s4, s5, s6, s7, s8, s9, s10, s11, s12, s13, s14, s15, s16, s17⟩; go_simp; with_reducible rfl
 rotate_left
 · simp only [Act.put, Ext.sb, Ext.sz, Ext.ss, i64_w, i32_w]; rfl
 refine take_ (i := 7) (N := some 15) (v := ?_) (a' := ?_) #[true, true, true, true, false, true, true, true, false, false, false] rfl rfl (take_ofW HT_.out HW_.out (by kernel_rfl)) (fun _ _ _ h => h) (Or.inl ⟨by rfl, ?_⟩) hHeld ?_ ?_; rotate_left
 · rintro w' ⟨s0, s1, s2, s3, s4, s5, s6, s7, s8, s9, s10, s11, s12, s13, s14, s15, s16, s17⟩; go_simp; with_reducible rfl
 rotate_left
 · simp only [Act.put, Ext.sb, Ext.sz, Ext.ss, i64_w, i32_w]; rfl
 refine one_ (i := 4) (N := some 12) #[true, true, true, true, true, true, true, true, false, false, false] rfl rfl (one_of HT_.out (by kernel_rfl)) (by decide) (fun K hK => ?_); refine goes_ Try.func21 (by kernel_rfl) rfl #[.slice A0_4 l0_4.length c0_4] (by rfl) rfl rfl (by (try simp only [List.map_toArray, List.map_cons, List.map_nil]); first | done | rfl | (simp only [List.length_drop, List.length_take]; rfl)) ?_
 with_reducible refine (terrierlaw20_kvs.calls k _ _ l0_4 t272 _ ?side1 ?side2 A2.out).mono ?_
 (case side1 => first | exact Ext.kC HR0_4.out HB.out | exact Ext.nC HR0_4.out)
 (case side2 => exact HC0_4.out)
 rintro e w7 ⟨rfl, hb⟩; refine ⟨_, rfl, ?_⟩; replace BK271 := Ext.a (blk_below BK271.out hb); replace HB := Ext.a (below_step (Ext.s1 GE271.out HB.out) hb); (try clear hb); refine hK.out _ _ (Ext.cells18 BK271.out) (fun hHeld => ?_); clear hK K; refine norm_ (a' := ?_) ?_ ?_; rotate_left
 · show Act.put _ (some 12) _ = _; simp only [Act.put, Ext.sb, Ext.sz, Ext.ss, i64_w, i32_w]; rfl
 refine one_ (i := 8) (N := some 16) #[true, true, true, true, true, true, true, true, true, false, false] rfl rfl (one_of HT_.out (by kernel_rfl)) (by decide) (fun K hK => ?_); refine goes_ Try.func21 (by kernel_rfl) rfl #[.slice A0_7 l0_7.length c0_7] (by rfl) rfl rfl (by (try simp only [List.map_toArray, List.map_cons, List.map_nil]); first | done | rfl | (simp only [List.length_drop, List.length_take]; rfl)) ?_
 with_reducible refine (terrierlaw20_kvs.calls k _ _ l0_7 t273 _ ?side1 ?side2 A3.out).mono ?_
 (case side1 => first | exact Ext.kC HR0_7.out HB.out | exact Ext.nC HR0_7.out)
 (case side2 => exact HC0_7.out)
 rintro e w8 ⟨rfl, hb⟩; refine ⟨_, rfl, ?_⟩; replace BK271 := Ext.a (blk_below BK271.out hb); replace HB := Ext.a (below_step (Ext.s1 GE271.out HB.out) hb); (try clear hb); refine hK.out _ _ (Ext.cells18 BK271.out) (fun hHeld => ?_); clear hK K; refine norm_ (a' := ?_) ?_ ?_; rotate_left
 · show Act.put _ (some 16) _ = _; simp only [Act.put, Ext.sb, Ext.sz, Ext.ss, i64_w, i32_w]; rfl
 refine pure_ (i := 9) (N := some 17) (v := ?_) (a' := ?_) #[true, true, true, true, true, true, true, true, true, true, false] rfl rfl (any_of HT_.out (by kernel_rfl)) (fun _ _ _ h => h) (Or.inl ⟨by rfl, ?_⟩) ?_ ?_; rotate_left
 · intro w'; go_simp; with_reducible rfl
 rotate_left
 · simp only [Act.put, Ext.sb, Ext.sz, Ext.ss, i64_w, i32_w]; rfl
 refine pure_ (i := 10) (N := some 3) (v := ?_) (a' := ?_) #[true, true, true, true, true, true, true, true, true, true, true] rfl rfl (any_of HT_.out (by kernel_rfl)) (fun _ _ _ h => h) (Or.inl ⟨by rfl, ?_⟩) ?_ ?_; rotate_left
 · intro w'; go_simp; with_reducible rfl
 rotate_left
 · simp only [Act.put, Ext.sb, Ext.sz, Ext.ss, i64_w, i32_w]; rfl
 refine done_ (done_of HT_.out (by kernel_rfl)) ?_
 go_upto_region 2 with (fail)
 go_cut [33] (fun v33 wc => ∃ (kq : Nat) (x33_3 : Bool), v33 = .bool x33_3 ∧ Aside0 (terrierlaw20_few.j0 kq (wrap64 (t272 + t273)) x33_3 a0_0 a0_1 a0_2 a0_3 l0_4 a0_5 a0_6 l0_7 a0_8 a0_9 l0_10 a0_11 a0_12 a0_13 l0_14 l0_15 a0_16 a0_17 = some r) ∧ Aside0 (kq ≤ k) ∧ Aside0 (wc.heap[gb271]? = some (.cells #[.int .i64 a0_0, .int .i64 a0_1, .int .i64 a0_2, .int .i64 a0_3, (.slice A0_4 l0_4.length c0_4), .int .i64 a0_5, .bool a0_6, (.slice A0_7 l0_7.length c0_7), .int .i64 a0_8, .bool a0_9, (.slice A0_10 l0_10.length c0_10), .int .i64 a0_11, .int .i64 a0_12, .int .i64 a0_13, (.slice A0_14 l0_14.length c0_14), (.slice A0_15 l0_15.length c0_15), .int .u32 a0_16, .int .i64 a0_17] 33 (0, 0))) ∧ Aside0 (Below w.heap.size w wc))
 case first =>
  have H := HC4.out; clear HC4
  by_cases c9 : (l0_10.length : Int) > 50
  ·
   rw [if_pos c9] at H; have c9b0 := decide_eq_true c9; have c9b1 : decide (50 < l0_10.length) = true := decide_eq_true (by omega); clear c9
   (first | rw [c9b0] | (simp only [i64_w, i32_w]; rw [c9b0]) | skip)
   have H' := Aside0.mk H; clear H; have hcz10 := Ext.cells18 BK271.out; have hfz10 := Ext.froz18 BK271.out
   go_wp2
   go_meet
   case rel => exact ⟨_, (true), (by first | rfl | (simp; done) | (simp [*]; done)), H', ⟨by first | omega | exact Nat.le_refl _⟩, ⟨by exact BK271.out⟩, ⟨by exact Ext.s1 GE271.out HB.out⟩⟩
  ·
   rw [if_neg c9] at H; have c9b0 := decide_eq_false c9; have c9b1 : decide (50 < l0_10.length) = false := decide_eq_false (by omega); clear c9
   (first | rw [c9b0] | (simp only [i64_w, i32_w]; rw [c9b0]) | skip)
   by_cases c11 : (l0_15.length : Int) > 100
   ·
    rw [if_pos c11] at H; have c11b0 := decide_eq_true c11; have c11b1 : decide (100 < l0_15.length) = true := decide_eq_true (by omega); clear c11; have H' := Aside0.mk H; clear H; have hcz12 := Ext.cells18 BK271.out; have hfz12 := Ext.froz18 BK271.out
    go_wp2
    go_meet
    case rel => exact ⟨_, (true), (by first | rfl | (simp; done) | (simp [*]; done)), H', ⟨by first | omega | exact Nat.le_refl _⟩, ⟨by exact BK271.out⟩, ⟨by exact Ext.s1 GE271.out HB.out⟩⟩
   ·
    rw [if_neg c11] at H; have c11b0 := decide_eq_false c11; have c11b1 : decide (100 < l0_15.length) = false := decide_eq_false (by omega); clear c11; have H' := Aside0.mk H; clear H; have hcz13 := Ext.cells18 BK271.out; have hfz13 := Ext.froz18 BK271.out
    go_wp2
    go_meet
    case rel => exact ⟨_, (decide ((l0_14.length : Int) > 300)), (by first | rfl | (simp; done) | (simp [*]; done)), H', ⟨by first | omega | exact Nat.le_refl _⟩, ⟨by exact BK271.out⟩, ⟨by exact Ext.s1 GE271.out HB.out⟩⟩
 case rest =>
  clear HC4; (try clear c1 c2 p2 p6 c9b0 c9b1 c11b0 c11b1 hcz10 hcz12 hcz13 hfz10 hfz12 hfz13); obtain ⟨kq, x33_3, rfl, HA, HJ3, BK271, HB⟩ := hcut; cases kq with
  | zero => exact absurd HA.out (by simp [terrierlaw20_few.j0])
  | succ kj3 =>
   have H := HA.out; clear HA; simp only [terrierlaw20_few.j0] at H
   by_cases c14 : x33_3 = true
   ·
    subst c14; rw [if_pos rfl] at H; obtain rfl := Option.some.inj H
    go_wp2
    go_ret
    exact ⟨by first | rfl | (simp [errW_none, errW_some] <;> rfl) | (simp [*, errW_none, errW_some] <;> rfl), by exact Ext.s1 GE271.out HB.out⟩
   ·
    replace c14 := Bool.eq_false_iff.mpr c14; subst c14; rw [if_neg Bool.false_ne_true] at H; have H' := Aside0.mk H; clear H; have hcz15 := Ext.cells18 BK271.out; have hfz15 := Ext.froz18 BK271.out
    go_wp2
    go_loopg [3, 37] kj3 (fun kq v3 v37 w' => ∃ (x3_2 : Int) (x37_2 : Int), v3 = .int .i64 x3_2 ∧ v37 = .int .i64 x37_2 ∧ Aside0 (terrierlaw20_few.l0 kq x3_2 l0_10 (l0_10.length : Int) x37_2 a0_0 a0_1 a0_2 a0_3 l0_4 a0_5 a0_6 l0_7 a0_8 a0_9 l0_10 a0_11 a0_12 a0_13 l0_14 l0_15 a0_16 a0_17 = some r) ∧ Aside0 (kq ≤ kj3) ∧ Aside0 (w'.heap[gb271]? = some (.cells #[.int .i64 a0_0, .int .i64 a0_1, .int .i64 a0_2, .int .i64 a0_3, (.slice A0_4 l0_4.length c0_4), .int .i64 a0_5, .bool a0_6, (.slice A0_7 l0_7.length c0_7), .int .i64 a0_8, .bool a0_9, (.slice A0_10 l0_10.length c0_10), .int .i64 a0_11, .int .i64 a0_12, .int .i64 a0_13, (.slice A0_14 l0_14.length c0_14), (.slice A0_15 l0_15.length c0_15), .int .u32 a0_16, .int .i64 a0_17] 33 (0, 0))) ∧ Aside0 (Below w.heap.size w w'))
    case atStart => exact ⟨((wrap64 (t272 + t273))), (0), (by first | rfl | (simp; done) | (simp [*]; done)), (by first | rfl | (simp; done) | (simp [*]; done)), H', ⟨Nat.le_refl _⟩, ⟨by exact BK271.out⟩, ⟨by exact Ext.s1 GE271.out HB.out⟩⟩
    case round =>
     clear H'; (try clear hcz15 hfz15); obtain ⟨x3_2, x37_2, rfl, rfl, HA, HK2, BK271, HB⟩ := hrel; cases gk with
     | zero => exact absurd HA.out (by simp [terrierlaw20_few.l0])
     | succ k2 =>
      have H := HA.out; clear HA; simp only [terrierlaw20_few.l0] at H
      by_cases c16 : x37_2 < (l0_10.length : Int)
      ·
       rw [if_pos c16] at H; have c16b0 := decide_eq_true c16; clear c16
       by_cases c17 : 0 ≤ x37_2
       ·
        rw [if_pos c17] at H; have c17b0 := decide_eq_true c17; clear c17
        by_cases c18 : x37_2 < (l0_10.length : Int)
        ·
         rw [if_pos c18] at H; have c18b0 := decide_eq_true c18; clear c18; replace H := Option.bind_eq_some_iff.mp H; obtain ⟨t276, A190, H⟩ := H; (try dsimp only at H); have A19 := Aside0.mk A190; clear A190; replace H := Option.bind_eq_some_iff.mp H; obtain ⟨t277, A200, H⟩ := H; (try dsimp only at H); have A20 := Aside0.mk A200; clear A200; have H' := Aside0.mk H; clear H; have p274 : 0 ≤ (x37_2 : Int) := of_decide_eq_true (by first | (with_reducible assumption) | assumption); have q274 : x37_2 < (l0_10.length : Int) := of_decide_eq_true (by first | (with_reducible assumption) | assumption); obtain ⟨ad274, A274_1, c274_1, A274_4, c274_4, e274, hx274_0, hx274_1, hx274_2, hx274_3, hx274_4, hx274_5, hl274_1, hi274_1, hl274_4, hi274_4⟩ := at_T27 HR0_10.out x37_2 p274 q274; cases e274; replace hx274_0 := (HB.out.cell (World.block_lt_of_cell? w _ hx274_0)).trans hx274_0; replace hx274_1 := (HB.out.cell (World.block_lt_of_cell? w _ hx274_1)).trans hx274_1; replace hx274_2 := (HB.out.cell (World.block_lt_of_cell? w _ hx274_2)).trans hx274_2; replace hx274_3 := (HB.out.cell (World.block_lt_of_cell? w _ hx274_3)).trans hx274_3; replace hx274_4 := (HB.out.cell (World.block_lt_of_cell? w _ hx274_4)).trans hx274_4; replace hx274_5 := (HB.out.cell (World.block_lt_of_cell? w _ hx274_5)).trans hx274_5; have HR274_1 := Aside0.mk hi274_1; have HC274_1 := Aside0.mk hl274_1; clear hi274_1 hl274_1; have HR274_4 := Aside0.mk hi274_4; have HC274_4 := Aside0.mk hl274_4; clear hi274_4 hl274_4; replace p274 := eq_true p274
         replace q274 := eq_true q274
         try go_wp2_with (first | ((with_reducible refine gate_dst (N := 40) rfl ?_); (try (refine gate_guard (by rfl) ?_; dsimp only)); refine Ext.struct_load (hgd := ?hg) (t := 27) (x := ?vx_40) (ho := ?ho) (cs := [.int .i64 ((rd_T27 l0_10 x37_2).f0), .slice A274_1 ((rd_T27 l0_10 x37_2).f1.f0).length c274_1, .int .i64 ((rd_T27 l0_10 x37_2).f1.f1), .bool ((rd_T27 l0_10 x37_2).f1.f2), .slice A274_4 ((rd_T27 l0_10 x37_2).f2).length c274_4, .int .i64 ((rd_T27 l0_10 x37_2).f3)]) (haddr := ?ha) Try.underlying27 rfl (by kernel_rfl) ⟨hx274_0, hx274_1, hx274_2, hx274_3, hx274_4, hx274_5, trivial⟩ ?_; (case ho => rfl); (case hg => rfl); (case ha => rfl)) | ((with_reducible refine gate_dst (N := 5) rfl ?_); (try (refine gate_guard (by rfl) ?_; dsimp only)); refine Ext.alloc_event (hgd := ?hg) (N := 5) (_hd := ?hd) (t := 27) (ho := ?ho) info27 ?_; (case ho => rfl); (case hd => rfl); (case hg => rfl); intro gb275 hg w21 hbox hb; have BK275 := Ext.a (hbox); have GW275 := Ext.gw hg (below_size (Ext.s1 GE271.out HB.out)); have GE275 := Ext.gw hg (below_size (Ext.s1 GE271.out HB.out)); replace HB := Ext.a (below_step (Ext.s1 GE271.out HB.out) hb); have NB271_275 := Ext.nt hg (blk_lt BK271.out); have NB275_271 := Ext.ng hg (blk_lt BK271.out); replace BK271 := Ext.a (blk_below BK271.out hb); clear hb hbox hg; have hnb22 := NB275_271.out; have hnc22 := NB271_275.out; obtain ⟨hcz23_0, hcz23_1, hcz23_2, hcz23_3, hcz23_4, hcz23_5⟩ := Ext.cells6 BK275.out; obtain ⟨hfz23_0, hfz23_1, hfz23_2, hfz23_3, hfz23_4, hfz23_5⟩ := Ext.froz6 BK275.out) | ((with_reducible refine gate_store (t := 27) (p := 5) rfl ?_); refine Ext.struct_store (hgd := ?hg) (hN := ?hn) (t := 27) (p := .tmp 5) (x := ?vo_w24) (ho := ?ho) (cells := #[.int .i64 ((rd_T27 l0_10 x37_2).f0), .slice A274_1 ((rd_T27 l0_10 x37_2).f1.f0).length c274_1, .int .i64 ((rd_T27 l0_10 x37_2).f1.f1), .bool ((rd_T27 l0_10 x37_2).f1.f2), .slice A274_4 ((rd_T27 l0_10 x37_2).f2).length c274_4, .int .i64 ((rd_T27 l0_10 x37_2).f3)]) (haddr := ?ha) (hx := ?hx) BK275.out rfl (by kernel_rfl) rfl ?_; (case ho => rfl); (case hg => rfl); (case hn => rfl); (case ha => rfl); (case hx => first | rfl | (go_simp; done)); intro w24 hx_ hk_ hbl_; replace BK271 := Ext.a (KeepBut.blk hk_ BK271.out NB271_275.out (by simp)); replace BK275 := Ext.a (hx_); replace HB := Ext.a (hbl_ _ _ HB.out GE275.out); clear hx_ hk_ hbl_))
         replace BK271 := Ext.a (blk_drew BK271.out); replace BK275 := Ext.a (blk_drew BK275.out); replace HB := Ext.a (below_drew1 HB.out); refine start_ (n := 11) (S := fun w' => w'.cell? ⟨gb275, 0, none⟩ = some (.int .i64 ((rd_T27 l0_10 x37_2).f0)) ∧ w'.cell? ⟨gb275, 1, none⟩ = some (.slice A274_1 ((rd_T27 l0_10 x37_2).f1.f0).length c274_1) ∧ w'.cell? ⟨gb275, 2, none⟩ = some (.int .i64 ((rd_T27 l0_10 x37_2).f1.f1)) ∧ w'.cell? ⟨gb275, 3, none⟩ = some (.bool ((rd_T27 l0_10 x37_2).f1.f2)) ∧ w'.cell? ⟨gb275, 4, none⟩ = some (.slice A274_4 ((rd_T27 l0_10 x37_2).f2).length c274_4) ∧ w'.cell? ⟨gb275, 5, none⟩ = some (.int .i64 ((rd_T27 l0_10 x37_2).f3))) (ds := []) zb9_0 (by kernel_rfl) rfl rfl ⟨(blk_cell BK275.out 0).trans rfl, (blk_cell BK275.out 1).trans rfl, (blk_cell BK275.out 2).trans rfl, (blk_cell BK275.out 3).trans rfl, (blk_cell BK275.out 4).trans rfl, (blk_cell BK275.out 5).trans rfl⟩ (fun hHeld => ?_); refine with_tabW terrierlaw20_few.tab7 terrierlaw20_few.bits7 (fun HT_ HW_ => ?_); generalize w24.drew = w25 at BK271 BK275 HB hHeld ⊢; refine pure_ (i := 0) (N := some 41) (v := ?_) (a' := ?_) zb9_1 rfl rfl (any_of HT_.out (by kernel_rfl)) (fun _ _ _ h => h) (Or.inl ⟨by rfl, ?_⟩) ?_ ?_; rotate_left
         · intro w'; go_simp; with_reducible rfl
         rotate_left
         · simp only [Act.put, Ext.sb, Ext.sz, Ext.ss, i64_w, i32_w]; rfl
         refine pure_ (i := 1) (N := some 42) (v := ?_) (a' := ?_) #[true, true, false, false, false, false, false, false, false, false, false] rfl rfl (any_of HT_.out (by kernel_rfl)) (fun _ _ _ h => h) (Or.inl ⟨by rfl, ?_⟩) ?_ ?_; rotate_left
         · intro w'; go_simp; with_reducible rfl
         rotate_left
         · simp only [Act.put, Ext.sb, Ext.sz, Ext.ss, i64_w, i32_w]; rfl
         refine pure_ (i := 2) (N := some 43) (v := ?_) (a' := ?_) #[true, true, true, false, false, false, false, false, false, false, false] rfl rfl (any_of HT_.out (by kernel_rfl)) (fun _ _ _ h => h) (Or.inl ⟨by rfl, ?_⟩) ?_ ?_; rotate_left
         · intro w'; go_simp; with_reducible rfl
         rotate_left
         · simp only [Act.put, Ext.sb, Ext.sz, Ext.ss, i64_w, i32_w]; rfl
         refine pure_ (i := 5) (N := some 46) (v := ?_) (a' := ?_) #[true, true, true, false, false, true, false, false, false, false, false] rfl rfl (any_of HT_.out (by kernel_rfl)) (fun _ _ _ h => h) (Or.inl ⟨by rfl, ?_⟩) ?_ ?_; rotate_left
         · intro w'; go_simp; with_reducible rfl
         rotate_left
         · simp only [Act.put, Ext.sb, Ext.sz, Ext.ss, i64_w, i32_w]; rfl
         refine take_ (i := 3) (N := some 44) (v := ?_) (a' := ?_) #[true, true, true, true, false, true, false, false, false, false, false] rfl rfl (take_ofW HT_.out HW_.out (by kernel_rfl)) (fun _ _ _ h => h) (Or.inl ⟨by rfl, ?_⟩) hHeld ?_ ?_; rotate_left
         · rintro w' ⟨s0, s1, s2, s3, s4, s5⟩; go_simp; with_reducible rfl
         rotate_left
         · simp only [Act.put, Ext.sb, Ext.sz, Ext.ss, i64_w, i32_w]; rfl
         refine take_ (i := 6) (N := some 47) (v := ?_) (a' := ?_) #[true, true, true, true, false, true, true, false, false, false, false] rfl rfl (take_ofW HT_.out HW_.out (by kernel_rfl)) (fun _ _ _ h => h) (Or.inl ⟨by rfl, ?_⟩) hHeld ?_ ?_; rotate_left
         · rintro w' ⟨s0, s1, s2, s3, s4, s5⟩; go_simp; with_reducible rfl
         rotate_left
         · simp only [Act.put, Ext.sb, Ext.sz, Ext.ss, i64_w, i32_w]; rfl
         refine one_ (i := 4) (N := some 45) #[true, true, true, true, true, true, true, false, false, false, false] rfl rfl (one_of HT_.out (by kernel_rfl)) (by decide) (fun K hK => ?_); refine goes_ Try.func21 (by kernel_rfl) rfl #[.slice A274_1 ((rd_T27 l0_10 x37_2).f1.f0).length c274_1] (by rfl) rfl rfl (by (try simp only [List.map_toArray, List.map_cons, List.map_nil]); first | done | rfl | (simp only [List.length_drop, List.length_take]; rfl)) ?_
         with_reducible refine (terrierlaw20_kvs.calls k2 _ _ ((rd_T27 l0_10 x37_2).f1.f0) t276 _ ?side1 ?side2 A19.out).mono ?_
         (case side1 => first | exact Ext.kC HR274_1.out HB.out | exact Ext.nC HR274_1.out)
         (case side2 => exact HC274_1.out)
         rintro e w26 ⟨rfl, hb⟩; refine ⟨_, rfl, ?_⟩; replace BK271 := Ext.a (blk_below BK271.out hb); replace BK275 := Ext.a (blk_below BK275.out hb); replace HB := Ext.a (below_step (Ext.s2 GE271.out GE275.out HB.out) hb); (try clear hb); refine hK.out _ _ ⟨(blk_cell BK275.out 0).trans rfl, (blk_cell BK275.out 1).trans rfl, (blk_cell BK275.out 2).trans rfl, (blk_cell BK275.out 3).trans rfl, (blk_cell BK275.out 4).trans rfl, (blk_cell BK275.out 5).trans rfl⟩ (fun hHeld => ?_); clear hK K; refine norm_ (a' := ?_) ?_ ?_; rotate_left
         · show Act.put _ (some 45) _ = _; simp only [Act.put, Ext.sb, Ext.sz, Ext.ss, i64_w, i32_w]; rfl
         refine one_ (i := 7) (N := some 48) #[true, true, true, true, true, true, true, true, false, false, false] rfl rfl (one_of HT_.out (by kernel_rfl)) (by decide) (fun K hK => ?_); refine goes_ Try.func21 (by kernel_rfl) rfl #[.slice A274_4 ((rd_T27 l0_10 x37_2).f2).length c274_4] (by rfl) rfl rfl (by (try simp only [List.map_toArray, List.map_cons, List.map_nil]); first | done | rfl | (simp only [List.length_drop, List.length_take]; rfl)) ?_
         with_reducible refine (terrierlaw20_kvs.calls k2 _ _ ((rd_T27 l0_10 x37_2).f2) t277 _ ?side1 ?side2 A20.out).mono ?_
         (case side1 => first | exact Ext.kC HR274_4.out HB.out | exact Ext.nC HR274_4.out)
         (case side2 => exact HC274_4.out)
         rintro e w27 ⟨rfl, hb⟩; refine ⟨_, rfl, ?_⟩; replace BK271 := Ext.a (blk_below BK271.out hb); replace BK275 := Ext.a (blk_below BK275.out hb); replace HB := Ext.a (below_step (Ext.s2 GE271.out GE275.out HB.out) hb); (try clear hb); refine hK.out _ _ ⟨(blk_cell BK275.out 0).trans rfl, (blk_cell BK275.out 1).trans rfl, (blk_cell BK275.out 2).trans rfl, (blk_cell BK275.out 3).trans rfl, (blk_cell BK275.out 4).trans rfl, (blk_cell BK275.out 5).trans rfl⟩ (fun hHeld => ?_); clear hK K; refine norm_ (a' := ?_) ?_ ?_; rotate_left
         · show Act.put _ (some 48) _ = _; simp only [Act.put, Ext.sb, Ext.sz, Ext.ss, i64_w, i32_w]; rfl
         refine pure_ (i := 8) (N := some 49) (v := ?_) (a' := ?_) #[true, true, true, true, true, true, true, true, true, false, false] rfl rfl (any_of HT_.out (by kernel_rfl)) (fun _ _ _ h => h) (Or.inl ⟨by rfl, ?_⟩) ?_ ?_; rotate_left
         · intro w'; go_simp; with_reducible rfl
         rotate_left
         · simp only [Act.put, Ext.sb, Ext.sz, Ext.ss, i64_w, i32_w]; rfl
         refine pure_ (i := 9) (N := some 50) (v := ?_) (a' := ?_) #[true, true, true, true, true, true, true, true, true, true, false] rfl rfl (any_of HT_.out (by kernel_rfl)) (fun _ _ _ h => h) (Or.inl ⟨by rfl, ?_⟩) ?_ ?_; rotate_left
         · intro w'; go_simp; with_reducible rfl
         rotate_left
         · simp only [Act.put, Ext.sb, Ext.sz, Ext.ss, i64_w, i32_w]; rfl
         refine pure_ (i := 10) (N := some 3) (v := ?_) (a' := ?_) #[true, true, true, true, true, true, true, true, true, true, true] rfl rfl (any_of HT_.out (by kernel_rfl)) (fun _ _ _ h => h) (Or.inl ⟨by rfl, ?_⟩) ?_ ?_; rotate_left
         · intro w'; go_simp; with_reducible rfl
         rotate_left
         · simp only [Act.put, Ext.sb, Ext.sz, Ext.ss, i64_w, i32_w]; rfl
         refine done_ (done_of HT_.out (by kernel_rfl)) ?_
         try go_wp2
         go_roundg k2
         case measure => have := HJ3.out; have := HK2.out; omega
         case rel => exact ⟨(wrap64 (x3_2 + (wrap64 (t276 + t277)))), (wrap64 (x37_2 + 1)), (by first | rfl | (simp; done) | (simp [*]; done)), (by first | rfl | (simp; done) | (simp [*]; done)), H', ⟨by have := HJ3.out; have := HK2.out; omega⟩, ⟨by exact BK271.out⟩, ⟨by exact Ext.s2 GE271.out GE275.out HB.out⟩⟩
        · rw [if_neg c18] at H; exact absurd H (by simp)
       · rw [if_neg c17] at H; exact absurd H (by simp)
      ·
       rw [if_neg c16] at H; have c16b0 := decide_eq_false c16; clear c16; have H' := Aside0.mk H; clear H; have hcz28 := Ext.cells18 BK271.out; have hfz28 := Ext.froz18 BK271.out
       go_wp2
       go_loopg [3, 55] k2 (fun kq v3 v55 w' => ∃ (x3_3 : Int) (x55_3 : Int), v3 = .int .i64 x3_3 ∧ v55 = .int .i64 x55_3 ∧ Aside0 (terrierlaw20_few.l1 kq x3_3 l0_15 (l0_15.length : Int) x55_3 = some r) ∧ Aside0 (kq ≤ k2) ∧ Aside0 (w'.heap[gb271]? = some (.cells #[.int .i64 a0_0, .int .i64 a0_1, .int .i64 a0_2, .int .i64 a0_3, (.slice A0_4 l0_4.length c0_4), .int .i64 a0_5, .bool a0_6, (.slice A0_7 l0_7.length c0_7), .int .i64 a0_8, .bool a0_9, (.slice A0_10 l0_10.length c0_10), .int .i64 a0_11, .int .i64 a0_12, .int .i64 a0_13, (.slice A0_14 l0_14.length c0_14), (.slice A0_15 l0_15.length c0_15), .int .u32 a0_16, .int .i64 a0_17] 33 (0, 0))) ∧ Aside0 (Below w.heap.size w w'))
       case atStart => exact ⟨(x3_2), (0), (by first | rfl | (simp; done) | (simp [*]; done)), (by first | rfl | (simp; done) | (simp [*]; done)), H', ⟨Nat.le_refl _⟩, ⟨by exact BK271.out⟩, ⟨by exact Ext.s1 GE271.out HB.out⟩⟩
       case round =>
        clear H'; (try clear q2 hx2 c16b0 c17b0 c18b0 c21 c22 c27 p27 q27 hx27 hcz23_0 hcz23_1 hcz23_2 hcz23_3 hcz23_4 hcz23_5 hcz28 hfz23_0 hfz23_1 hfz23_2 hfz23_3 hfz23_4 hfz23_5 hfz28 hx274_0 hx274_1 hx274_2 hx274_3 hx274_4 hx274_5 p274 q274); obtain ⟨x3_3, x55_3, rfl, rfl, HA, HK3, BK271, HB⟩ := hrel; cases gk with
        | zero => exact absurd HA.out (by simp [terrierlaw20_few.l1])
        | succ k3 =>
         have H := HA.out; clear HA; simp only [terrierlaw20_few.l1] at H
         by_cases c29 : x55_3 < (l0_15.length : Int)
         ·
          rw [if_pos c29] at H; have c29b0 := decide_eq_true c29; clear c29
          by_cases c30 : 0 ≤ x55_3
          ·
           rw [if_pos c30] at H; have c30b0 := decide_eq_true c30; clear c30
           by_cases c31 : x55_3 < (l0_15.length : Int)
           ·
            rw [if_pos c31] at H; have c31b0 := decide_eq_true c31; clear c31; obtain ⟨ji32, hji32⟩ : ∃ j_ : Int, (mn ((rd_L1 l0_15 x55_3).length : Int) 5000) = j_ := ⟨_, rfl⟩
            replace H : (terrierlaw20_few.l1 k3 (wrap64 (x3_3 + (ji32))) l0_15 (l0_15.length : Int) (wrap64 (x55_3 + 1))) = some r := by first | (rw [hji32] at H; exact H) | (simp only [hji32] at H ⊢; exact H)
            have hji32_ : (if 5000 < ((rd_L1 l0_15 x55_3).length : Int) then 5000 else ((rd_L1 l0_15 x55_3).length : Int)) = ji32 := hji32; have H' := Aside0.mk H; clear H; have p278 : 0 ≤ (x55_3 : Int) := of_decide_eq_true (by first | (with_reducible assumption) | assumption); have q278 : x55_3 < (l0_15.length : Int) := of_decide_eq_true (by first | (with_reducible assumption) | assumption); obtain ⟨ad278, A278_0, c278_0, e278, hx278_0, hl278_0, hi278_0⟩ := at_L1 HR0_15.out x55_3 p278 q278; cases e278; replace hx278_0 := (HB.out.cell (World.block_lt_of_cell? w _ hx278_0)).trans hx278_0; have HR278_0 := Aside0.mk hi278_0; have HC278_0 := Aside0.mk hl278_0; clear hi278_0 hl278_0; replace p278 := eq_true p278; replace q278 := eq_true q278
            go_wp2
            go_roundg k3
            case measure => have := HJ3.out; have := HK2.out; have := HK3.out; omega
            case rel => exact ⟨(wrap64 (x3_3 + (ji32))), (wrap64 (x55_3 + 1)), (by first | rfl | (simp; done) | (simp only [← hji32] <;> (first | rfl | simp)) | (simp [*]; done)), (by first | rfl | (simp; done) | (simp [*]; done)), H', ⟨by have := HJ3.out; have := HK2.out; have := HK3.out; omega⟩, ⟨by exact BK271.out⟩, ⟨by exact Ext.s1 GE271.out HB.out⟩⟩
           · rw [if_neg c31] at H; exact absurd H (by simp)
          · rw [if_neg c30] at H; exact absurd H (by simp)
         ·
          rw [if_neg c29] at H; have c29b0 := decide_eq_false c29; clear c29; obtain rfl := Option.some.inj H
          go_wp2
          go_ret
          exact ⟨by first | rfl | (simp [errW_none, errW_some] <;> rfl) | (simp [*, errW_none, errW_some] <;> rfl), by exact Ext.s1 GE271.out HB.out⟩

end Go.Proofs.Ytlhjdmpclfhoeaa.PC
